/- Functions, and what the code asks of them: PVict2. -/
import Derived.KernelRfl
import Derived.Test.YtabnaedcnfkmiaeVictimTellsP3
import Derived.Test.YtabnaedcnfkmiaeVictimTellsP4
import Derived.Test.YtabnaedcnfkmiaeVictimTellsP5
import Derived.Test.YtabnaedcnfkmiaeVictimTellsP6
import Derived.Test.YtabnaedcnfkmiaeVictimTellsP7
import Derived.Test.YtabnaedcnfkmiaeVictimTellsP8
import Derived.Test.YtabnaedcnfkmiaeVictimTellsP9
import Derived.Test.YtabnaedcnfkmiaeVictimTellsP10
import Derived.Test.YtabnaedcnfkmiaeVictimTellsP11
import Derived.Test.YtabnaedcnfkmiaeVictimTellsP12
import Derived.Test.YtabnaedcnfkmiaeVictimTellsP13
import Derived.Test.YtabnaedcnfkmiaeVictimTellsP15
import Derived.Test.YtabnaedcnfkmiaeVictimTellsP16
import Derived.Test.YtabnaedcnfkmiaeVictimTellsP17
set_option linter.unusedVariables false
set_option linter.unusedSimpArgs false
/- The machine from which jobs go; and the document's answers. -/
namespace Go.Abs
open Go

abbrev dF:=ByteArray×List bQ
def fJ (o:dF):Int:=if o.2.length=0 then -1 else (at_ o.2 ((o.2.length:Int) - 1)).1.2.2.1
def o5 (o:dF):Prop:=L20 o.2
def gQ (c:dF×dF):Int:=orI [fR ((c.1.2.length:Int),(c.2.2.length:Int)),fR (fJ c.1,fJ c.2),k5 (c.1.1,c.2.1)]
def mU (c:dF×dF):Prop:=L20 c.1.2∧L20 c.2.2
def gN (m:dF):List dF→dF
 | []=>m
 | x::l=>gN (if gQ (x,m) < 0 then x else m) l
def kZ:List dF→dF
 | []=>default
 | x::l=>gN x l
def qW (l:List dF):Prop:=0 < l.length∧L20 l∧∀ o∈l,L20 o.2
def cG (a:List bM×List bQ×bO):List dF:=(a.1.filter fun m=>(bB (m,a.2)).2).map fun m=>(m.1.1,(bB (m,a.2)).1)
def fD (a:List bM×List bQ×bO):Prop:=L20 a.1∧∀ m∈a.1,bY (m,a.2)
def bA (a:List bM×List bQ×bO):ByteArray×List ByteArray×Bool :=
 match cG a with
 | []=>(ByteArray.empty,[],false)
 | x::l=>((gN x l).1,fC (gN x l).2,true)
def jE (a:bQ×bQ):Bool:=ltW a.1 a.2
def ltP (jobs:List bQ) (i k:Int):Bool:=ltW (at_ jobs i) (at_ jobs k)
def gS (n:Nat):List Int:=(List.range n).map fun i:Nat=>Int.ofNat i
def lO (a:bM×List bQ×bO) (i:Int):Bool:=decide ((at_ a.2.1 i).2.2.1=a.1.1.1∧(at_ a.2.1 i).1.2.2.1 < a.2.2.2.2.1)
def fW (a:bM×List bQ×bO):List Int:=bK (ltP a.2.1) ((gS a.2.1.length).filter (lO a))
def cW (a:List bQ×List Int):List bQ:=((gS a.1.length).filter fun i=>!(a.2.any fun k=>decide (k=i))).map (at_ a.1)
def jI (a:List bQ×List Int):Prop:=L20 a.1∧L20 a.2
def aK (a:bM×List bQ×bO):List Int×Bool :=
 if dS a=0 then ([],true) else if ¬dS a=4 then ([],false) else
 match goK a.2.2.2.2.2.1 (aX (a.1,a.2.1)).1 (dZ a) with
 | some k=>((fW a).take k,true)
 | none=>([],false)
def jB (a:List bQ×List Int):List ByteArray:=a.2.map fun i=>(at_ a.1 i).1.1
def l9 (a:List bQ×List Int):Prop:=L20 a.1∧L20 a.2∧∀ i∈a.2,0≤i∧i < (a.1.length:Int)
def gE (a:List ByteArray×List ByteArray):Bool:=decide (a.1=a.2)
def jN (a:List ByteArray×List ByteArray):Prop:=L20 a.1∧L20 a.2
end Go.Abs

-- (interregnum/victim.offer).top
namespace Go.Abs
open Go
def f252.ent (K:aI→Prop) (t:aI):Prop:=∃ c:aI,(t.1=c.1)∧SlQ t.2.length c.2.length (gl aB t.2) (gl aB c.2) (K c)
theorem f252.ei {K:aI→Prop} {t:aI} (h:K t):f252.ent K t:=⟨t,⟨rfl,slQ (Rds.self (enc:=aB)) (h)⟩⟩
def f252.args (a:aI):List D:=[.agg [.str a.1,.slice .ro 13 a.2.length (gl aB a.2)]]
def f252.blks (a:aI):List (List D):=[]
def f252.res (a:aI):List D:=[.int .i64 (fJ a)]
def f252.blks' (a:aI):List (List D):=[]
def f252.C:aM:=FnC f252.args f252.blks (fun a=>o5 a) f252.res f252.blks'
end Go.Abs

/- (interregnum/victim.offer).top -/
namespace Go.Abs
open Go
set_option linter.unusedVariables false
def f252.kills (a:aI):List cB:=[]
def f252.cuts (a:aI):List (Nat×Σ β:Type,β→Tm):=[]
def f252.af (a:aI):AF:=AF.mk (.seq (.region [oT 1 0 .box [0],
 ⟨(some 2),1,.move,[.c (.int .i64 (0))],none⟩])
 (.seq (.seq (.region [oT 3 2 (.fieldAddr 1) [1],
 oT 4 3 (.load false 1) [3],
 oT 5 4 (.len false) [4],
 ⟨(some 6),5,(.bin .eql),[.t 5,.c (.int .i64 (0))],none⟩])
 (.cond (.t 6) (.seq (.region [⟨(some 2),6,.move,[.c (.int .i64 (-1))],none⟩])
 (.ret)) (.skip)))
 (.seq (.region [oT 7 7 (.fieldAddr 1) [1],
 oT 8 8 (.load false 1) [7],
 oT 9 9 (.fieldAddr 1) [1],
 oT 10 10 (.load false 1) [9],
 oT 11 11 (.len false) [10],
 ⟨(some 12),12,(.bin .sub),[.t 11,.c (.int .i64 (1))],none⟩,
 oT 13 13 (.indexAddr 13 none) [8,12],
 oT 14 14 (.fieldAddr 0) [13],
 oT 15 15 (.fieldAddr 2) [14],
 oT 16 16 (.load false 1) [15],
 oT 2 17 .move [16]])
 (.ret))))
 [.tmp 2] 0 16
def f252.env:Env:=[]
def f252.tree (a:aI):Prop:=Br ((a.2.length:Int)==(0:Int)) (((-1:Int)=(fJ a))∧True) (Let (IntKind.i64.wrap ((a.2.length:Int) - (1:Int))) (fun v4:Int=>Br (decide ((0:Int)≤v4)&&decide (v4 < (a.2.length:Int))) (((((at_ a.2 v4).1).2.2.1)=(fJ a))∧True) False))
def f252.vc (a:aI):Prop:=(((a.2.length:Int)=(0:Int)→((-1:Int)=fJ a))∧(¬((a.2.length:Int)=(0:Int))→(-9223372036854775808≤((a.2.length:Int) - (1:Int))∧((a.2.length:Int) - (1:Int))≤9223372036854775807∧((0:Int)≤((a.2.length:Int) - (1:Int))∧((a.2.length:Int) - (1:Int)) < (a.2.length:Int)∧(((at_ a.2 ((a.2.length:Int) - (1:Int))).1).2.2.1=fJ a)))))
set_option maxRecDepth 100000 in
set_option maxHeartbeats 2000000 in
theorem f252.of (a:aI) (h:f252.vc a):f252.tree a:=br h Cnd.eq (fun h1 k11=>⟨k11,trivial⟩) (fun h2 k12=>wrapK.i64 k12 (fun h8 h9 k10=>chk k10.2.2 Cnd.ix ⟨k10.1,k10.2.1⟩ (fun h5 k7=>⟨k7,trivial⟩)))
theorem f252.eq (a:aI):(f252.af a).gives f252.env (f252.args a) (f252.blks a) (f252.res a) (f252.blks' a)=f252.tree a:=by kernel_rfl
end Go.Abs

-- interregnum/victim.compare
namespace Go.Abs
open Go
def f245.ent (K:(aI×aI)→Prop) (t:aI×aI):Prop:=∃ c:aI×aI,(t.1.1=c.1.1)∧SlQ t.1.2.length c.1.2.length (gl aB t.1.2) (gl aB c.1.2) ((t.2.1=c.2.1)∧SlQ t.2.2.length c.2.2.length (gl aB t.2.2) (gl aB c.2.2) (K c))
theorem f245.ei {K:(aI×aI)→Prop} {t:aI×aI} (h:K t):f245.ent K t:=⟨t,⟨rfl,slQ (Rds.self (enc:=aB)) (⟨rfl,slQ (Rds.self (enc:=aB)) (h)⟩)⟩⟩
def f245.args (a:aI×aI):List D:=[.agg [.str a.1.1,.slice .ro 13 a.1.2.length (gl aB a.1.2)],.agg [.str a.2.1,.slice .ro 13 a.2.2.length (gl aB a.2.2)]]
def f245.blks (a:aI×aI):List (List D):=[]
def f245.res (a:aI×aI):List D:=[.int .i64 (gQ a)]
def f245.blks' (a:aI×aI):List (List D):=[]
def f245.C:aM:=FnC f245.args f245.blks (fun a=>mU a) f245.res f245.blks'
end Go.Abs

/- interregnum/victim.compare -/
namespace Go.Abs
open Go
set_option linter.unusedVariables false
def f245.kills (a:aI×aI):List cB:=[]
def f245.cuts (a:aI×aI):List (Nat×Σ β:Type,β→Tm):=[]
def f245.af (a:aI×aI):AF:=AF.mk (.seq (.region [oT 2 0 .box [0],
 oT 3 1 .box [1],
 ⟨(some 4),2,.move,[.c (.int .i64 (0))],none⟩])
 (.seq (.region [oT 5 3 (.fieldAddr 1) [2],
 oT 6 4 (.load false 1) [5],
 oT 7 5 (.len false) [6],
 oT 8 6 (.fieldAddr 1) [3],
 oT 9 7 (.load false 1) [8],
 oT 10 8 (.len false) [9],
 oT 11 9 (.call false 130) [7,10],
 oT 12 13 (.load true 2) [2],
 oT 13 14 (.call false 252) [12],
 oT 14 18 (.load true 2) [3],
 oT 15 19 (.call false 252) [14],
 oT 16 23 (.call false 130) [13,15],
 oT 17 27 (.fieldAddr 0) [2],
 oT 18 28 (.load false 1) [17],
 oT 19 29 (.fieldAddr 0) [3],
 oT 20 30 (.load false 1) [19],
 oT 21 31 (.call false 176) [18,20],
 oT 22 35 (.buildSlice 1 3 [.int .i64 (0)] [(0,1),(1,1),(2,1)]) [11,16,21],
 oT 23 36 (.call false 129) [22],
 oT 4 40 .move [23]])
 (.ret)))
 [.tmp 4] 0 22
def f245.env:Env:=[(130,f130.C),(252,f252.C),(176,f176.C),(129,f129.C)]
def f245.tree (a:aI×aI):Prop:=∃ c1:Int×Int,((a.1.2.length:Int)=c1.1)∧((a.2.2.length:Int)=c1.2)∧True∧f252.ent (fun c2=>(o5 c2)∧f252.ent (fun c3=>(o5 c3)∧∃ c4:Int×Int,((fJ c2)=c4.1)∧((fJ c3)=c4.2)∧True∧∃ c5:ByteArray×ByteArray,(a.1.1=c5.1)∧(a.2.1=c5.2)∧True∧∃ c6:List (Int),SlQ 3 c6.length (fun j=>List.take 1 (List.drop (j * 1) [.int .i64 (fR c1),.int .i64 (fR c4),.int .i64 (k5 c5)])) (gl bC c6) ((kJ c6)∧((orI c6)=(gQ a))∧True)) a.2) a.1
def f245.vc (a:aI×aI):Prop:=(o5 a.1∧(o5 a.2∧(kJ ([(fR ((a.1.2.length:Int),(a.2.2.length:Int))),(fR ((fJ (a.1)),(fJ (a.2)))),(k5 (a.1.1,a.2.1))])∧((orI ([(fR ((a.1.2.length:Int),(a.2.2.length:Int))),(fR ((fJ (a.1)),(fJ (a.2)))),(k5 (a.1.1,a.2.1))]))=gQ a))))
set_option maxRecDepth 100000 in
set_option maxHeartbeats 2000000 in
theorem f245.of (a:aI×aI) (h:f245.vc a):f245.tree a:=⟨((a.1.2.length:Int),(a.2.2.length:Int)),⟨rfl,⟨rfl,⟨trivial,(f252.ei ⟨h.1,(f252.ei ⟨h.2.1,⟨((fJ (a.1)),(fJ (a.2))),⟨rfl,⟨rfl,⟨trivial,⟨(a.1.1,a.2.1),⟨rfl,⟨rfl,⟨trivial,⟨[(fR ((a.1.2.length:Int),(a.2.2.length:Int))),(fR ((fJ (a.1)),(fJ (a.2)))),(k5 (a.1.1,a.2.1))],slQ (Rds.row (enc:=bC) ⟨rfl,fun i hi=>by repeat (first | rfl | exact absurd hi (Nat.not_lt.2 (Nat.le_add_left 3 _)) | (cases i with | zero=>rfl | succ i=>?_))⟩) (⟨h.2.2.1,⟨h.2.2.2,trivial⟩⟩)⟩⟩⟩⟩⟩⟩⟩⟩⟩⟩)⟩)⟩⟩⟩⟩
theorem f245.eq (a:aI×aI):(f245.af a).gives f245.env (f245.args a) (f245.blks a) (f245.res a) (f245.blks' a)=f245.tree a:=by kernel_rfl
end Go.Abs

-- slices.MinFunc[[]interregnum/victim.offer,interregnum/victim.offer]
namespace Go.Abs
open Go
def f244.args (a:List (aI)):List D:=[.slice .ro 2 a.length (gl aW a),.fn 245 []]
def f244.blks (a:List (aI)):List (List D):=[]
def f244.res (a:List (aI)):List D:=[.agg [.str ((kZ a).1),.slice .ro 13 (((kZ a).2).length) (gl aB ((kZ a).2))]]
def f244.blks' (a:List (aI)):List (List D):=[]
def f244.C:aM:=FnC f244.args f244.blks (fun a=>qW a) f244.res f244.blks'
end Go.Abs

/- slices.MinFunc[[]interregnum/victim.offer,interregnum/victim.offer] -/
namespace Go.Abs
open Go
set_option linter.unusedVariables false
def f244.S0 (a:List (aI)) (x:Int×ByteArray×(List (aA))):Tm:=⟨[.slice .ro 2 a.length (gl aW a),.fn 245 [],.dead,.dead,.ptr 0 0,.ptr 11 0,.int .i64 x.1,.dead,.dead,.dead,.dead,.dead,.dead,.dead,.dead,.dead,.dead,.dead,.dead,.dead,.dead,.dead,.dead,.dead,.dead,.dead,.dead,.dead,.dead,.dead,.dead,.dead,.dead],[(0,false,[.str ByteArray.empty,.slice (.own 2) 13 0 cO]),(11,false,[.str x.2.1,.slice .ro 13 x.2.2.length (gl aB x.2.2)])],[(2,13,0)]⟩
def f244.l0 (a:List (aI)) (K:(Int×ByteArray×(List (aA)))→Prop) (t:Int×ByteArray×(List (aA))):Prop:=∃ x:Int×ByteArray×(List (aA)),SlS aW a ((DEqs [] [])∧(t.1=x.1)∧(ByteArray.empty=ByteArray.empty)∧SlQ 0 0 cO cO ((t.2.1=x.2.1)∧SlQ t.2.2.length x.2.2.length (gl aB t.2.2) (gl aB x.2.2) ((0=0)∧K x)))
theorem f244.l0i (a:List (aI)) {K:(Int×ByteArray×(List (aA)))→Prop} {t:Int×ByteArray×(List (aA))} (h:K t):f244.l0 a K t:=⟨t,SlS.mk  (⟨(DEqs.refl _),⟨rfl,⟨rfl,slQ ⟨rfl,fun _ _=>DEqs.refl _⟩ (⟨rfl,slQ (Rds.self (enc:=aB)) (⟨rfl,h⟩)⟩)⟩⟩⟩)⟩
def f244.kills (a:List (aI)):List cB:=[.tell (Int×ByteArray×(List (aA))) (f244.S0 a)]
def f244.cuts (a:List (aI)):List (Nat×Σ β:Type,β→Tm):=[]
def f244.af (a:List (aI)):AF:=AF.mk (.seq (.region [oT 4 0 (.alloc [.str ByteArray.empty,.slice (.own 0) 13 0 cO]) []])
 (.seq (.seq (.region [oT 7 3 .move [0],
 oT 8 4 (.len false) [7],
 ⟨(some 9),5,(.bin .lss),[.t 8,.c (.int .i64 (1))],none⟩])
 (.cond (.t 9) (.region [oT 10 6 .stuck [],
 ⟨none,7,.stuck,[],none⟩]) (.skip)))
 (.seq (.region [oT 11 8 .move [0],
 ⟨(some 12),9,(.indexAddr 2 none),[.t 11,.c (.int .i64 (0))],none⟩,
 oT 13 10 (.load true 2) [12],
 oT 5 11 (.alloc [.str ByteArray.empty,.slice (.own 0) 13 0 cO]) [],
 ⟨none,14,(.store 2),[.t 5,.t 13],none⟩])
 (.seq (.seq (.region [⟨(some 6),15,.move,[.c (.int .i64 (1))],none⟩])
 (.block 0 (.loopT (Int×ByteArray×(List (aA))) (f244.S0 a) 16 39 (.seq (.seq (.region [oT 14 16 .move [6],
 oT 15 17 .move [0],
 oT 16 18 (.len false) [15],
 oT 17 19 (.bin .lss) [14,16]])
 (.cond (.t 17) (.skip) (.exit 0)))
 (.seq (.block 1 (.seq (.region [oT 20 20 .move [1],
 oT 21 21 .move [0],
 oT 22 22 .move [6],
 oT 23 23 (.indexAddr 2 none) [21,22],
 oT 24 24 (.load true 2) [23],
 oT 25 25 (.load true 2) [5],
 oT 26 26 (.callv false) [20,24,25],
 ⟨(some 27),30,(.bin .lss),[.t 26,.c (.int .i64 (0))],none⟩])
 (.cond (.t 27) (.region [oT 28 31 .move [0],
 oT 29 32 .move [6],
 oT 30 33 (.indexAddr 2 none) [28,29],
 oT 31 34 (.load true 2) [30],
 ⟨none,35,(.store 2),[.t 5,.t 31],none⟩]) (.skip))))
 (.region [oT 18 36 .move [6],
 ⟨(some 19),37,(.bin .add),[.t 18,.c (.int .i64 (1))],none⟩,
 oT 6 38 .move [19]]))))))
 (.seq (.region [oT 32 39 (.load true 2) [5],
 ⟨none,40,(.store 2),[.t 4,.t 32],none⟩])
 (.ret))))))
 [.cell 4 true 2] 0 31
def f244.env:Env:=[(245,f245.C)]
def f244.tree (a:List (aI)):Prop:=Br (decide ((a.length:Int) < (1:Int))) (False) (Br (decide ((0:Int)≤(0:Int))&&decide ((0:Int) < (a.length:Int))) (∃ (I5:(Int×ByteArray×(List (aA)))→Prop) (μ6:(Int×ByteArray×(List (aA)))→Nat),(f244.l0 a I5 ((1:Int),(at_ a (0:Int)).1,(at_ a (0:Int)).2))∧∀ y7:Int×ByteArray×(List (aA)),I5 y7→(Br (decide (y7.1 < (a.length:Int))) (Br (decide ((0:Int)≤y7.1)&&decide (y7.1 < (a.length:Int))) (f245.ent (fun c11=>(mU c11)∧Br (decide ((gQ c11) < (0:Int))) (Br (decide ((0:Int)≤y7.1)&&decide (y7.1 < (a.length:Int))) (Let (IntKind.i64.wrap (y7.1+(1:Int))) (fun v15:Int=>f244.l0 a (Dn I5 μ6 y7) (v15,(at_ a y7.1).1,(at_ a y7.1).2))) False) (Let (IntKind.i64.wrap (y7.1+(1:Int))) (fun v22:Int=>f244.l0 a (Dn I5 μ6 y7) (v22,y7.2.1,y7.2.2)))) ((at_ a y7.1),y7.2)) False) ((y7.2.1=((kZ a).1))∧SlQ y7.2.2.length (((kZ a).2).length) (gl aB y7.2.2) (gl aB ((kZ a).2)) (True)))) False)
def f244.vc (a:List (aI)):Prop:=(((a.length:Int) < (1:Int)→False)∧(¬((a.length:Int) < (1:Int))→((0:Int) < (a.length:Int)∧(∃ (I5:(Int×ByteArray×(List (aA)))→Prop) (μ6:(Int×ByteArray×(List (aA)))→Nat),I5 ((1:Int),(at_ a (0:Int)).1,(at_ a (0:Int)).2)∧∀ y7:Int×ByteArray×(List (aA)),I5 y7→((y7.1 < (a.length:Int)→((0:Int)≤y7.1∧y7.1 < (a.length:Int)∧(mU ((at_ a y7.1),y7.2)∧(((gQ ((at_ a y7.1),y7.2)) < (0:Int)→((0:Int)≤y7.1∧y7.1 < (a.length:Int)∧(-9223372036854775808≤(y7.1+(1:Int))∧(y7.1+(1:Int))≤9223372036854775807∧(I5 ((y7.1+(1:Int)),(at_ a y7.1).1,(at_ a y7.1).2)∧μ6 ((y7.1+(1:Int)),(at_ a y7.1).1,(at_ a y7.1).2) < μ6 y7))))∧(¬((gQ ((at_ a y7.1),y7.2)) < (0:Int))→(-9223372036854775808≤(y7.1+(1:Int))∧(y7.1+(1:Int))≤9223372036854775807∧(I5 ((y7.1+(1:Int)),y7.2.1,y7.2.2)∧μ6 ((y7.1+(1:Int)),y7.2.1,y7.2.2) < μ6 y7)))))))∧(¬(y7.1 < (a.length:Int))→(y7.2=kZ a)))))))
set_option maxRecDepth 100000 in
set_option maxHeartbeats 2000000 in
theorem f244.of (a:List (aI)) (h:f244.vc a):f244.tree a:=br h Cnd.dec (fun h1 k39=>k39) (fun h2 k40=>chk k40.2 Cnd.ix ⟨(by decide),k40.1⟩ (fun h3 k38=>Exists.elim k38 (fun I5 h35_=>Exists.elim h35_ (fun μ6 h35=>⟨I5,μ6,(f244.l0i a h35.1),fun y7 h37=>br (h35.2 y7 h37) Cnd.dec (fun h8 k33=>chk k33.2.2 Cnd.ix ⟨k33.1,k33.2.1⟩ (fun h10 k31=>(f245.ei ⟨k31.1,br k31.2 Cnd.dec (fun h12 k28=>chk k28.2.2 Cnd.ix ⟨k28.1,k28.2.1⟩ (fun h14 k21=>wrapK.i64 k21 (fun h18 h19 k20=>(f244.l0i a k20)))) (fun h13 k29=>wrapK.i64 k29 (fun h25 h26 k27=>(f244.l0i a k27)))⟩))) (fun h9 k34=>⟨(congrArg (fun x:aI=>x.1) k34 :),slQ (Rds.to (Rds.self (enc:=aB)) (congrArg (fun x:aI=>x.2) k34 :)) (trivial)⟩)⟩))))
theorem f244.eq (a:List (aI)):(f244.af a).gives f244.env (f244.args a) (f244.blks a) (f244.res a) (f244.blks' a)=f244.tree a:=by kernel_rfl
end Go.Abs

-- interregnum/victim.Choose
namespace Go.Abs
open Go
def f227.ent (K:((List (aC))×(List (aA))×aF)→Prop) (t:(List (aC))×(List (aA))×aF):Prop:=∃ c:(List (aC))×(List (aA))×aF,SlQ t.1.length c.1.length (gl a6 t.1) (gl a6 c.1) (SlQ t.2.1.length c.2.1.length (gl aB t.2.1) (gl aB c.2.1) ((t.2.2.1=c.2.2.1)∧(t.2.2.2.1=c.2.2.2.1)∧(t.2.2.2.2.1=c.2.2.2.2.1)∧(t.2.2.2.2.2.1.1=c.2.2.2.2.2.1.1)∧(t.2.2.2.2.2.1.2.1=c.2.2.2.2.2.1.2.1)∧(t.2.2.2.2.2.1.2.2=c.2.2.2.2.2.1.2.2)∧SlQ t.2.2.2.2.2.2.1.length c.2.2.2.2.2.2.1.length (gl aE t.2.2.2.2.2.2.1) (gl aE c.2.2.2.2.2.2.1) ((t.2.2.2.2.2.2.2.1=c.2.2.2.2.2.2.2.1)∧(t.2.2.2.2.2.2.2.2.1=c.2.2.2.2.2.2.2.2.1)∧(t.2.2.2.2.2.2.2.2.2=c.2.2.2.2.2.2.2.2.2)∧K c)))
theorem f227.ei {K:((List (aC))×(List (aA))×aF)→Prop} {t:(List (aC))×(List (aA))×aF} (h:K t):f227.ent K t:=⟨t,slQ (Rds.self (enc:=a6)) (slQ (Rds.self (enc:=aB)) (⟨rfl,⟨rfl,⟨rfl,⟨rfl,⟨rfl,⟨rfl,slQ (Rds.self (enc:=aE)) (⟨rfl,⟨rfl,⟨rfl,h⟩⟩⟩)⟩⟩⟩⟩⟩⟩))⟩
def f227.args (a:(List (aC))×(List (aA))×aF):List D:=[.slice .ro 7 a.1.length (gl a6 a.1),.slice .ro 13 a.2.1.length (gl aB a.2.1),.agg [.str a.2.2.1,.str a.2.2.2.1,.int .i64 a.2.2.2.2.1,.int .i64 a.2.2.2.2.2.1.1,.int .i64 a.2.2.2.2.2.1.2.1,.int .i64 a.2.2.2.2.2.1.2.2,.slice .ro 2 a.2.2.2.2.2.2.1.length (gl aE a.2.2.2.2.2.2.1),.str a.2.2.2.2.2.2.2.1,.str a.2.2.2.2.2.2.2.2.1,.int .i64 a.2.2.2.2.2.2.2.2.2]]
def f227.blks (a:(List (aC))×(List (aA))×aF):List (List D):=[]
def f227.res (a:(List (aC))×(List (aA))×aF):List D:=[.str ((bA a).1),.slice .ro 1 (((bA a).2.1).length) (gl bN ((bA a).2.1)),.bool ((bA a).2.2)]
def f227.blks' (a:(List (aC))×(List (aA))×aF):List (List D):=[]
def f227.C:aM:=FnC f227.args f227.blks (fun a=>fD a) f227.res f227.blks'
end Go.Abs

/- interregnum/victim.Choose -/
namespace Go.Abs
open Go
set_option linter.unusedVariables false
def f227.S0 (a:(List (aC))×(List (aA))×aF) (x:(List (aI))×Int):Tm:=⟨[.dead,.slice .ro 13 a.2.1.length (gl aB a.2.1),.dead,.dead,.dead,.ptr 0 0,.dead,.dead,.dead,.slice (.own 4) 2 x.1.length (gl aW x.1),.dead,.dead,.dead,.dead,.dead,.slice .ro 7 a.1.length (gl a6 a.1),.int .i64 (a.1.length:Int),.int .i64 x.2,.dead,.dead,.dead,.dead,.dead,.dead,.dead,.dead,.dead,.dead,.dead,.dead,.dead,.dead,.dead,.dead,.dead,.dead,.dead,.dead,.dead,.dead,.dead,.dead,.dead,.dead,.dead,.dead,.dead,.dead],[(0,false,[.str a.2.2.1,.str a.2.2.2.1,.int .i64 a.2.2.2.2.1,.int .i64 a.2.2.2.2.2.1.1,.int .i64 a.2.2.2.2.2.1.2.1,.int .i64 a.2.2.2.2.2.1.2.2,.slice .ro 2 a.2.2.2.2.2.2.1.length (gl aE a.2.2.2.2.2.2.1),.str a.2.2.2.2.2.2.2.1,.str a.2.2.2.2.2.2.2.2.1,.int .i64 a.2.2.2.2.2.2.2.2.2])],[(4,2,x.1.length)]⟩
def f227.kills (a:(List (aC))×(List (aA))×aF):List cB:=[.tell ((List (aI))×Int) (f227.S0 a)]
def f227.cuts (a:(List (aC))×(List (aA))×aF):List (Nat×Σ β:Type,β→Tm):=[]
def f227.af (a:(List (aC))×(List (aA))×aF):AF:=AF.mk (.seq (.region [oT 5 0 .box [2],
 ⟨(some 6),1,.move,[.c (.str ByteArray.empty)],none⟩,
 oT 7 2 (.nilSl 1) [],
 ⟨(some 8),3,.move,[.c (.bool false)],none⟩])
 (.seq (.region [oT 9 4 (.nilSl 2) []])
 (.seq (.seq (.region [oT 15 5 .move [0],
 oT 16 6 (.len false) [15],
 ⟨(some 17),7,.move,[.c (.int .i64 (0))],none⟩])
 (.block 0 (.loopT ((List (aI))×Int) (f227.S0 a) 8 44 (.seq (.region [oT 18 8 (.bin .lss) [17,16]])
 (.seq (.cond (.t 18) (.skip) (.exit 0))
 (.seq (.block 1 (.seq (.region [oT 19 9 (.indexAddr 7 none) [15,17],
 oT 20 10 (.load true 7) [19],
 oT 11 11 (.alloc [.str ByteArray.empty,.int .i64 (0),.int .i64 (0),.int .i64 (0),.slice (.own 0) 2 0 cO,.bool false,.int .i64 (0)]) [],
 ⟨none,19,(.store 7),[.t 11,.t 20],none⟩])
 (.seq (.region [oT 22 20 (.load true 7) [11],
 oT 23 21 .move [1],
 oT 24 22 (.load true 10) [5],
 oT 25 23 (.call false 243) [22,23,24],
 oT 21 27 .move [25],
 oT 26 28 (.extract 0) [21],
 oT 27 29 (.extract 1) [21],
 oT 12 30 .move [26],
 oT 13 31 .move [27]])
 (.seq (.region [oT 28 32 .move [13]])
 (.cond (.t 28) (.region [oT 29 33 .move [9],
 oT 30 34 (.fieldAddr 0) [11],
 oT 31 35 (.fieldAddr 0) [30],
 oT 32 36 (.load false 1) [31],
 oT 33 37 .move [12],
 oT 34 38 (.build [.str ByteArray.empty,.slice .full 13 0 cO] [(0,1),(1,1)]) [32,33],
 oT 35 39 (.buildSlice 2 1 [.str ByteArray.empty,.slice .full 13 0 cO] [(0,2)]) [34],
 oT 36 40 (.append 2 40) [29,35],
 oT 9 41 .move [36]]) (.skip))))))
 (.region [⟨(some 37),42,(.bin .add),[.t 17,.c (.int .i64 (1))],none⟩,
 oT 17 43 .move [37]])))))))
 (.seq (.seq (.region [oT 38 44 .move [9],
 oT 39 45 (.len false) [38],
 ⟨(some 40),46,(.bin .eql),[.t 39,.c (.int .i64 (0))],none⟩])
 (.cond (.t 40) (.seq (.region [⟨(some 6),47,.move,[.c (.str ByteArray.empty)],none⟩,
 oT 7 48 (.nilSl 1) [],
 ⟨(some 8),49,.move,[.c (.bool false)],none⟩])
 (.ret)) (.skip)))
 (.seq (.region [oT 41 50 .move [9],
 ⟨(some 42),51,(.call false 244),[.t 41,.c (.fn 245 [])],none⟩,
 oT 14 55 (.alloc [.str ByteArray.empty,.slice (.own 0) 13 0 cO]) [],
 ⟨none,58,(.store 2),[.t 14,.t 42],none⟩])
 (.seq (.region [oT 43 59 (.fieldAddr 0) [14],
 oT 44 60 (.load false 1) [43],
 oT 45 61 (.fieldAddr 1) [14],
 oT 46 62 (.load false 1) [45],
 oT 47 63 (.call false 246) [46],
 oT 6 67 .move [44],
 oT 7 68 .move [47],
 ⟨(some 8),69,.move,[.c (.bool true)],none⟩])
 (.ret)))))))
 [.tmp 6,.tmp 7,.tmp 8] 0 45
def f227.env:Env:=[(243,f243.C),(244,f244.C),(246,f246.C)]
def f227.tree (a:(List (aC))×(List (aA))×aF):Prop:=∃ (I2:((List (aI))×Int)→Prop) (μ3:((List (aI))×Int)→Nat),(∃ x1:(List (aI))×Int,SlS aB a.2.1 (SlQ 0 x1.1.length cO (gl aW x1.1) (SlS a6 a.1 (((a.1.length:Int)=(a.1.length:Int))∧((0:Int)=x1.2)∧(a.2.2.1=a.2.2.1)∧(a.2.2.2.1=a.2.2.2.1)∧(a.2.2.2.2.1=a.2.2.2.2.1)∧(a.2.2.2.2.2.1.1=a.2.2.2.2.2.1.1)∧(a.2.2.2.2.2.1.2.1=a.2.2.2.2.2.1.2.1)∧(a.2.2.2.2.2.1.2.2=a.2.2.2.2.2.1.2.2)∧SlS aE a.2.2.2.2.2.2.1 ((a.2.2.2.2.2.2.2.1=a.2.2.2.2.2.2.2.1)∧(a.2.2.2.2.2.2.2.2.1=a.2.2.2.2.2.2.2.2.1)∧(a.2.2.2.2.2.2.2.2.2=a.2.2.2.2.2.2.2.2.2)∧(0=x1.1.length)∧I2 x1)))))∧∀ y4:(List (aI))×Int,I2 y4→(Br (decide (y4.2 < (a.1.length:Int))) (Br (decide ((0:Int)≤y4.2)&&decide (y4.2 < (a.1.length:Int))) (f243.ent (fun c8=>(bY c8)∧Br ((bB c8).2) ((y4.1.length=y4.1.length∧k6 ((y4.1.length+1) * 40))∧(Let (IntKind.i64.wrap (y4.2+(1:Int))) (fun v11:Int=>∃ x12:(List (aI))×Int,SlS aB a.2.1 (SlQ (y4.1.length+1) x12.1.length (fF (gl aW y4.1) y4.1.length (fun _=>[.str (((at_ a.1 y4.2).1).1),.slice .ro 13 (((bB c8).1).length) (gl aB ((bB c8).1))])) (gl aW x12.1) (SlS a6 a.1 (((a.1.length:Int)=(a.1.length:Int))∧(v11=x12.2)∧(a.2.2.1=a.2.2.1)∧(a.2.2.2.1=a.2.2.2.1)∧(a.2.2.2.2.1=a.2.2.2.2.1)∧(a.2.2.2.2.2.1.1=a.2.2.2.2.2.1.1)∧(a.2.2.2.2.2.1.2.1=a.2.2.2.2.2.1.2.1)∧(a.2.2.2.2.2.1.2.2=a.2.2.2.2.2.1.2.2)∧SlS aE a.2.2.2.2.2.2.1 ((a.2.2.2.2.2.2.2.1=a.2.2.2.2.2.2.2.1)∧(a.2.2.2.2.2.2.2.2.1=a.2.2.2.2.2.2.2.2.1)∧(a.2.2.2.2.2.2.2.2.2=a.2.2.2.2.2.2.2.2.2)∧((y4.1.length+1)=x12.1.length)∧I2 x12∧μ3 x12 < μ3 y4))))))) (Let (IntKind.i64.wrap (y4.2+(1:Int))) (fun v17:Int=>∃ x18:(List (aI))×Int,SlS aB a.2.1 (SlQ y4.1.length x18.1.length (gl aW y4.1) (gl aW x18.1) (SlS a6 a.1 (((a.1.length:Int)=(a.1.length:Int))∧(v17=x18.2)∧(a.2.2.1=a.2.2.1)∧(a.2.2.2.1=a.2.2.2.1)∧(a.2.2.2.2.1=a.2.2.2.2.1)∧(a.2.2.2.2.2.1.1=a.2.2.2.2.2.1.1)∧(a.2.2.2.2.2.1.2.1=a.2.2.2.2.2.1.2.1)∧(a.2.2.2.2.2.1.2.2=a.2.2.2.2.2.1.2.2)∧SlS aE a.2.2.2.2.2.2.1 ((a.2.2.2.2.2.2.2.1=a.2.2.2.2.2.2.2.1)∧(a.2.2.2.2.2.2.2.2.1=a.2.2.2.2.2.2.2.2.1)∧(a.2.2.2.2.2.2.2.2.2=a.2.2.2.2.2.2.2.2.2)∧(y4.1.length=x18.1.length)∧I2 x18∧μ3 x18 < μ3 y4))))))) ((((at_ a.1 y4.2).1),(at_ a.1 y4.2).2.1,(at_ a.1 y4.2).2.2),a.2.1,a.2.2)) False) (Br ((y4.1.length:Int)==(0:Int)) ((0=0)∧(ByteArray.empty=((bA a).1))∧SlQ 0 (((bA a).2.1).length) cO (gl bN ((bA a).2.1)) ((false=((bA a).2.2))∧True)) (∃ c30:List (aI),SlQ y4.1.length c30.length (gl aW y4.1) (gl aW c30) ((DEqs [] [])∧(qW c30)∧f246.ent (fun c31=>(jR c31)∧(((kZ c30).1)=((bA a).1))∧SlQ ((fC c31).length) (((bA a).2.1).length) (gl bN (fC c31)) (gl bN ((bA a).2.1)) ((true=((bA a).2.2))∧True)) ((kZ c30).2)))))
def f227.vc (a:(List (aC))×(List (aA))×aF):Prop:=(∃ (I2:((List (aI))×Int)→Prop) (μ3:((List (aI))×Int)→Nat),I2 ([],(0:Int))∧∀ y4:(List (aI))×Int,I2 y4→((y4.2 < (a.1.length:Int)→((0:Int)≤y4.2∧y4.2 < (a.1.length:Int)∧(bY ((((at_ a.1 y4.2).1),(at_ a.1 y4.2).2.1,(at_ a.1 y4.2).2.2),a.2.1,a.2.2)∧((((bB ((((at_ a.1 y4.2).1),(at_ a.1 y4.2).2.1,(at_ a.1 y4.2).2.2),a.2.1,a.2.2)).2)=true→(y4.1.length+1≤1073741824∧(-9223372036854775808≤(y4.2+(1:Int))∧(y4.2+(1:Int))≤9223372036854775807∧(I2 (y4.1++([(((at_ a.1 y4.2).1).1,(bB ((((at_ a.1 y4.2).1),(at_ a.1 y4.2).2.1,(at_ a.1 y4.2).2.2),a.2.1,a.2.2)).1)]),(y4.2+(1:Int)))∧μ3 (y4.1++([(((at_ a.1 y4.2).1).1,(bB ((((at_ a.1 y4.2).1),(at_ a.1 y4.2).2.1,(at_ a.1 y4.2).2.2),a.2.1,a.2.2)).1)]),(y4.2+(1:Int))) < μ3 y4))))∧(¬(((bB ((((at_ a.1 y4.2).1),(at_ a.1 y4.2).2.1,(at_ a.1 y4.2).2.2),a.2.1,a.2.2)).2)=true)→(-9223372036854775808≤(y4.2+(1:Int))∧(y4.2+(1:Int))≤9223372036854775807∧(I2 (y4.1,(y4.2+(1:Int)))∧μ3 (y4.1,(y4.2+(1:Int))) < μ3 y4)))))))∧(¬(y4.2 < (a.1.length:Int))→(((y4.1.length:Int)=(0:Int)→((ByteArray.empty,[],false)=bA a))∧(¬((y4.1.length:Int)=(0:Int))→(qW y4.1∧(jR ((kZ (y4.1)).2)∧(((kZ (y4.1)).1,(fC ((kZ (y4.1)).2)),true)=bA a))))))))
set_option maxRecDepth 100000 in
set_option maxHeartbeats 2000000 in
theorem f227.of (a:(List (aC))×(List (aA))×aF) (h:f227.vc a):f227.tree a:=Exists.elim h (fun I2 h39_=>Exists.elim h39_ (fun μ3 h39=>⟨I2,μ3,⟨([],(0:Int)),SlS.mk  (slQ (Rds.nil (enc:=aW)) (SlS.mk  (⟨rfl,⟨rfl,⟨rfl,⟨rfl,⟨rfl,⟨rfl,⟨rfl,⟨rfl,SlS.mk  (⟨rfl,⟨rfl,⟨rfl,⟨(cI cO (Rds.nil (enc:=aW))),h39.1⟩⟩⟩⟩)⟩⟩⟩⟩⟩⟩⟩⟩)))⟩,fun y4 h41=>br (h39.2 y4 h41) Cnd.dec (fun h5 k37=>chk k37.2.2 Cnd.ix ⟨k37.1,k37.2.1⟩ (fun h7 k26=>(f243.ei ⟨k26.1,br k26.2 Cnd.b (fun h9 k23=>⟨⟨rfl,(f7 k23.1 (by decide))⟩,wrapK.i64 k23.2 (fun h14 h15 k16=>⟨(y4.1++([(((at_ a.1 y4.2).1).1,(bB ((((at_ a.1 y4.2).1),(at_ a.1 y4.2).2.1,(at_ a.1 y4.2).2.2),a.2.1,a.2.2)).1)]),(y4.2+(1:Int))),SlS.mk  (slQ (Rds.app (enc:=aW) (Rds.self (enc:=aW)) (Rds.one (enc:=aW) (DEqs.refl _))) (SlS.mk  (⟨rfl,⟨rfl,⟨rfl,⟨rfl,⟨rfl,⟨rfl,⟨rfl,⟨rfl,SlS.mk  (⟨rfl,⟨rfl,⟨rfl,⟨(cI (fF (gl aW y4.1) y4.1.length (fun _=>[.str (((at_ a.1 y4.2).1).1),.slice .ro 13 (((bB ((((at_ a.1 y4.2).1),(at_ a.1 y4.2).2.1,(at_ a.1 y4.2).2.2),a.2.1,a.2.2)).1).length) (gl aB ((bB ((((at_ a.1 y4.2).1),(at_ a.1 y4.2).2.1,(at_ a.1 y4.2).2.2),a.2.1,a.2.2)).1))])) (Rds.app (enc:=aW) (Rds.self (enc:=aW)) (Rds.one (enc:=aW) (DEqs.refl _)))),k16⟩⟩⟩⟩)⟩⟩⟩⟩⟩⟩⟩⟩)))⟩)⟩) (fun h10 k24=>wrapK.i64 k24 (fun h20 h21 k22=>⟨(y4.1,(y4.2+(1:Int))),SlS.mk  (slQ (Rds.self (enc:=aW)) (SlS.mk  (⟨rfl,⟨rfl,⟨rfl,⟨rfl,⟨rfl,⟨rfl,⟨rfl,⟨rfl,SlS.mk  (⟨rfl,⟨rfl,⟨rfl,⟨(cI (gl aW y4.1) (Rds.self (enc:=aW))),k22⟩⟩⟩⟩)⟩⟩⟩⟩⟩⟩⟩⟩)))⟩))⟩))) (fun h6 k38=>br k38 Cnd.eq (fun h27 k35=>⟨rfl,⟨(congrArg (fun x:ByteArray×(List (ByteArray))×Bool=>x.1) k35 :),slQ (Rds.to (Rds.nil (enc:=bN)) (congrArg (fun x:ByteArray×(List (ByteArray))×Bool=>x.2.1) k35 :)) (⟨(congrArg (fun x:ByteArray×(List (ByteArray))×Bool=>x.2.2) k35 :),trivial⟩)⟩⟩) (fun h28 k36=>⟨y4.1,slQ (Rds.self (enc:=aW)) (⟨(DEqs.refl _),⟨k36.1,(f246.ei ⟨k36.2.1,⟨(congrArg (fun x:ByteArray×(List (ByteArray))×Bool=>x.1) k36.2.2 :),slQ (Rds.to (Rds.self (enc:=bN)) (congrArg (fun x:ByteArray×(List (ByteArray))×Bool=>x.2.1) k36.2.2 :)) (⟨(congrArg (fun x:ByteArray×(List (ByteArray))×Bool=>x.2.2) k36.2.2 :),trivial⟩)⟩⟩)⟩⟩)⟩))⟩))
theorem f227.eq (a:(List (aC))×(List (aA))×aF):(f227.af a).gives f227.env (f227.args a) (f227.blks a) (f227.res a) (f227.blks' a)=f227.tree a:=by kernel_rfl
end Go.Abs

-- interregnum/interregnumref13.ahead
namespace Go.Abs
open Go
def f403.ent (K:(aA×aA)→Prop) (t:aA×aA):Prop:=∃ c:aA×aA,(t.1.1.1=c.1.1.1)∧(t.1.1.2.1=c.1.1.2.1)∧(t.1.1.2.2.1=c.1.1.2.2.1)∧(t.1.1.2.2.2.1.1=c.1.1.2.2.2.1.1)∧(t.1.1.2.2.2.1.2.1=c.1.1.2.2.2.1.2.1)∧(t.1.1.2.2.2.1.2.2=c.1.1.2.2.2.1.2.2)∧SlQ t.1.1.2.2.2.2.1.length c.1.1.2.2.2.2.1.length (gl aE t.1.1.2.2.2.2.1) (gl aE c.1.1.2.2.2.2.1) ((t.1.1.2.2.2.2.2.1=c.1.1.2.2.2.2.2.1)∧(t.1.1.2.2.2.2.2.2.1=c.1.1.2.2.2.2.2.2.1)∧(t.1.1.2.2.2.2.2.2.2=c.1.1.2.2.2.2.2.2.2)∧(t.1.2.1=c.1.2.1)∧(t.1.2.2.1=c.1.2.2.1)∧(t.1.2.2.2=c.1.2.2.2)∧(t.2.1.1=c.2.1.1)∧(t.2.1.2.1=c.2.1.2.1)∧(t.2.1.2.2.1=c.2.1.2.2.1)∧(t.2.1.2.2.2.1.1=c.2.1.2.2.2.1.1)∧(t.2.1.2.2.2.1.2.1=c.2.1.2.2.2.1.2.1)∧(t.2.1.2.2.2.1.2.2=c.2.1.2.2.2.1.2.2)∧SlQ t.2.1.2.2.2.2.1.length c.2.1.2.2.2.2.1.length (gl aE t.2.1.2.2.2.2.1) (gl aE c.2.1.2.2.2.2.1) ((t.2.1.2.2.2.2.2.1=c.2.1.2.2.2.2.2.1)∧(t.2.1.2.2.2.2.2.2.1=c.2.1.2.2.2.2.2.2.1)∧(t.2.1.2.2.2.2.2.2.2=c.2.1.2.2.2.2.2.2.2)∧(t.2.2.1=c.2.2.1)∧(t.2.2.2.1=c.2.2.2.1)∧(t.2.2.2.2=c.2.2.2.2)∧K c))
theorem f403.ei {K:(aA×aA)→Prop} {t:aA×aA} (h:K t):f403.ent K t:=⟨t,⟨rfl,⟨rfl,⟨rfl,⟨rfl,⟨rfl,⟨rfl,slQ (Rds.self (enc:=aE)) (⟨rfl,⟨rfl,⟨rfl,⟨rfl,⟨rfl,⟨rfl,⟨rfl,⟨rfl,⟨rfl,⟨rfl,⟨rfl,⟨rfl,slQ (Rds.self (enc:=aE)) (⟨rfl,⟨rfl,⟨rfl,⟨rfl,⟨rfl,⟨rfl,h⟩⟩⟩⟩⟩⟩)⟩⟩⟩⟩⟩⟩⟩⟩⟩⟩⟩⟩)⟩⟩⟩⟩⟩⟩⟩
def f403.args (a:aA×aA):List D:=[.agg [.str a.1.1.1,.str a.1.1.2.1,.int .i64 a.1.1.2.2.1,.int .i64 a.1.1.2.2.2.1.1,.int .i64 a.1.1.2.2.2.1.2.1,.int .i64 a.1.1.2.2.2.1.2.2,.slice .ro 2 a.1.1.2.2.2.2.1.length (gl aE a.1.1.2.2.2.2.1),.str a.1.1.2.2.2.2.2.1,.str a.1.1.2.2.2.2.2.2.1,.int .i64 a.1.1.2.2.2.2.2.2.2,.int .i64 a.1.2.1,.str a.1.2.2.1,.int .i64 a.1.2.2.2],.agg [.str a.2.1.1,.str a.2.1.2.1,.int .i64 a.2.1.2.2.1,.int .i64 a.2.1.2.2.2.1.1,.int .i64 a.2.1.2.2.2.1.2.1,.int .i64 a.2.1.2.2.2.1.2.2,.slice .ro 2 a.2.1.2.2.2.2.1.length (gl aE a.2.1.2.2.2.2.1),.str a.2.1.2.2.2.2.2.1,.str a.2.1.2.2.2.2.2.2.1,.int .i64 a.2.1.2.2.2.2.2.2.2,.int .i64 a.2.2.1,.str a.2.2.2.1,.int .i64 a.2.2.2.2]]
def f403.blks (a:aA×aA):List (List D):=[]
def f403.res (a:aA×aA):List D:=[.bool (jE a)]
def f403.blks' (a:aA×aA):List (List D):=[]
def f403.C:aM:=FnC f403.args f403.blks (fun _=>True) f403.res f403.blks'
end Go.Abs

/- interregnum/interregnumref13.ahead -/
namespace Go.Abs
open Go
set_option linter.unusedVariables false
def f403.kills (a:aA×aA):List cB:=[]
def f403.cuts (a:aA×aA):List (Nat×Σ β:Type,β→Tm):=[]
def f403.af (a:aA×aA):AF:=AF.mk (.seq (.region [oT 2 0 .box [0],
 oT 3 1 .box [1],
 ⟨(some 4),2,.move,[.c (.bool false)],none⟩])
 (.seq (.region [oT 5 3 (.fieldAddr 0) [2],
 oT 6 4 (.fieldAddr 2) [5],
 oT 7 5 (.load false 1) [6],
 oT 8 6 (.fieldAddr 0) [3],
 oT 9 7 (.fieldAddr 2) [8],
 oT 10 8 (.load false 1) [9],
 oT 11 9 (.bin .lss) [7,10],
 oT 12 10 .move [11],
 oG 13 11 (.fieldAddr 0) [2] 12 false,
 oG 14 12 (.fieldAddr 2) [13] 12 false,
 oG 15 13 (.load false 1) [14] 12 false,
 oG 16 14 (.fieldAddr 0) [3] 12 false,
 oG 17 15 (.fieldAddr 2) [16] 12 false,
 oG 18 16 (.load false 1) [17] 12 false,
 oG 19 17 (.bin .eql) [15,18] 12 false,
 oG 20 18 .move [19] 12 false,
 oG 21 19 (.fieldAddr 10) [2] 20 true,
 oG 22 20 (.load false 1) [21] 20 true,
 oG 23 21 (.fieldAddr 10) [3] 20 true,
 oG 24 22 (.load false 1) [23] 20 true,
 oG 25 23 (.bin .gtr) [22,24] 20 true,
 ⟨(some 26),24,.pick,[.t 20,.t 25,.c (.bool false)],(some (12,false))⟩,
 ⟨(some 27),25,.pick,[.t 12,.c (.bool true),.t 26],none⟩,
 oT 4 26 .move [27]])
 (.ret)))
 [.tmp 4] 0 26
def f403.env:Env:=[]
def f403.tree (a:aA×aA):Prop:=Br (decide (a.1.1.2.2.1 < a.2.1.2.2.1)) ((true=(jE a))∧True) (Br (a.1.1.2.2.1==a.2.1.2.2.1) (((decide (a.2.2.1 < a.1.2.1))=(jE a))∧True) ((false=(jE a))∧True))
def f403.vc (a:aA×aA):Prop:=((a.1.1.2.2.1 < a.2.1.2.2.1→(true=jE a))∧(¬(a.1.1.2.2.1 < a.2.1.2.2.1)→((a.1.1.2.2.1=a.2.1.2.2.1→(decide (a.2.2.1 < a.1.2.1)=jE a))∧(¬(a.1.1.2.2.1=a.2.1.2.2.1)→(false=jE a)))))
set_option maxRecDepth 100000 in
set_option maxHeartbeats 2000000 in
theorem f403.of (a:aA×aA) (h:f403.vc a):f403.tree a:=br h Cnd.dec (fun h1 k10=>⟨k10,trivial⟩) (fun h2 k11=>br k11 Cnd.eq (fun h4 k8=>⟨k8,trivial⟩) (fun h5 k9=>⟨k9,trivial⟩))
theorem f403.eq (a:aA×aA):(f403.af a).gives f403.env (f403.args a) (f403.blks a) (f403.res a) (f403.blks' a)=f403.tree a:=by kernel_rfl
end Go.Abs

-- interregnum/interregnumref13.weaker
namespace Go.Abs
open Go
def f401.ent (K:(aC×(List (aA))×aF)→Prop) (t:aC×(List (aA))×aF):Prop:=∃ c:aC×(List (aA))×aF,(t.1.1.1=c.1.1.1)∧(t.1.1.2.1.1=c.1.1.2.1.1)∧(t.1.1.2.1.2.1=c.1.1.2.1.2.1)∧(t.1.1.2.1.2.2=c.1.1.2.1.2.2)∧SlQ t.1.1.2.2.length c.1.1.2.2.length (gl aE t.1.1.2.2) (gl aE c.1.1.2.2) ((t.1.2.1=c.1.2.1)∧(t.1.2.2=c.1.2.2)∧SlQ t.2.1.length c.2.1.length (gl aB t.2.1) (gl aB c.2.1) ((t.2.2.1=c.2.2.1)∧(t.2.2.2.1=c.2.2.2.1)∧(t.2.2.2.2.1=c.2.2.2.2.1)∧(t.2.2.2.2.2.1.1=c.2.2.2.2.2.1.1)∧(t.2.2.2.2.2.1.2.1=c.2.2.2.2.2.1.2.1)∧(t.2.2.2.2.2.1.2.2=c.2.2.2.2.2.1.2.2)∧SlQ t.2.2.2.2.2.2.1.length c.2.2.2.2.2.2.1.length (gl aE t.2.2.2.2.2.2.1) (gl aE c.2.2.2.2.2.2.1) ((t.2.2.2.2.2.2.2.1=c.2.2.2.2.2.2.2.1)∧(t.2.2.2.2.2.2.2.2.1=c.2.2.2.2.2.2.2.2.1)∧(t.2.2.2.2.2.2.2.2.2=c.2.2.2.2.2.2.2.2.2)∧K c)))
theorem f401.ei {K:(aC×(List (aA))×aF)→Prop} {t:aC×(List (aA))×aF} (h:K t):f401.ent K t:=⟨t,⟨rfl,⟨rfl,⟨rfl,⟨rfl,slQ (Rds.self (enc:=aE)) (⟨rfl,⟨rfl,slQ (Rds.self (enc:=aB)) (⟨rfl,⟨rfl,⟨rfl,⟨rfl,⟨rfl,⟨rfl,slQ (Rds.self (enc:=aE)) (⟨rfl,⟨rfl,⟨rfl,h⟩⟩⟩)⟩⟩⟩⟩⟩⟩)⟩⟩)⟩⟩⟩⟩⟩
def f401.args (a:aC×(List (aA))×aF):List D:=[.agg [.str a.1.1.1,.int .i64 a.1.1.2.1.1,.int .i64 a.1.1.2.1.2.1,.int .i64 a.1.1.2.1.2.2,.slice .ro 2 a.1.1.2.2.length (gl aE a.1.1.2.2),.bool a.1.2.1,.int .i64 a.1.2.2],.slice .ro 13 a.2.1.length (gl aB a.2.1),.agg [.str a.2.2.1,.str a.2.2.2.1,.int .i64 a.2.2.2.2.1,.int .i64 a.2.2.2.2.2.1.1,.int .i64 a.2.2.2.2.2.1.2.1,.int .i64 a.2.2.2.2.2.1.2.2,.slice .ro 2 a.2.2.2.2.2.2.1.length (gl aE a.2.2.2.2.2.2.1),.str a.2.2.2.2.2.2.2.1,.str a.2.2.2.2.2.2.2.2.1,.int .i64 a.2.2.2.2.2.2.2.2.2]]
def f401.blks (a:aC×(List (aA))×aF):List (List D):=[]
def f401.res (a:aC×(List (aA))×aF):List D:=[.slice .ro 1 ((fW a).length) (gl bC (fW a))]
def f401.blks' (a:aC×(List (aA))×aF):List (List D):=[]
def f401.C:aM:=FnC f401.args f401.blks (fun a=>i7 a) f401.res f401.blks'
end Go.Abs

/- interregnum/interregnumref13.weaker -/
namespace Go.Abs
open Go
set_option linter.unusedVariables false
def f401.S0 (a:aC×(List (aA))×aF) (x:(List (Int))×Int):Tm:=⟨[.dead,.slice .ro 13 a.2.1.length (gl aB a.2.1),.dead,.ptr 0 0,.dead,.ptr 1 0,.dead,.slice .ro 1 x.1.length (gl bC x.1),.dead,.dead,.dead,.dead,.int .i64 (a.2.1.length:Int),.int .i64 x.2,.dead,.dead,.dead,.dead,.dead,.dead,.dead,.dead,.dead,.dead,.dead,.dead,.dead,.dead,.dead,.dead,.dead,.dead,.dead,.dead,.dead,.dead,.dead,.dead,.dead,.dead,.dead,.dead,.dead,.dead,.dead,.dead,.dead,.dead,.dead,.dead,.dead,.dead,.dead,.dead,.dead,.dead,.dead,.dead,.dead,.dead,.dead,.dead,.dead,.dead,.dead,.dead,.dead,.dead,.dead,.dead,.dead,.dead,.dead],[(0,false,[.str a.1.1.1,.int .i64 a.1.1.2.1.1,.int .i64 a.1.1.2.1.2.1,.int .i64 a.1.1.2.1.2.2,.slice .ro 2 a.1.1.2.2.length (gl aE a.1.1.2.2),.bool a.1.2.1,.int .i64 a.1.2.2]),(1,false,[.str a.2.2.1,.str a.2.2.2.1,.int .i64 a.2.2.2.2.1,.int .i64 a.2.2.2.2.2.1.1,.int .i64 a.2.2.2.2.2.1.2.1,.int .i64 a.2.2.2.2.2.1.2.2,.slice .ro 2 a.2.2.2.2.2.2.1.length (gl aE a.2.2.2.2.2.2.1),.str a.2.2.2.2.2.2.2.1,.str a.2.2.2.2.2.2.2.2.1,.int .i64 a.2.2.2.2.2.2.2.2.2])],[]⟩
def f401.S1 (a:aC×(List (aA))×aF) (x:(List (Int))×Int×Int×Int):Tm:=⟨[.dead,.slice .ro 13 a.2.1.length (gl aB a.2.1),.dead,.ptr 0 0,.dead,.ptr 1 0,.dead,.slice .ro 1 x.1.length (gl bC x.1),.int .i64 x.2.1,.int .i64 x.2.2.1,.dead,.dead,.int .i64 (a.2.1.length:Int),.int .i64 x.2.2.2,.dead,.dead,.dead,.dead,.dead,.dead,.dead,.dead,.dead,.dead,.dead,.dead,.dead,.dead,.dead,.dead,.dead,.dead,.dead,.dead,.dead,.dead,.dead,.dead,.dead,.dead,.dead,.dead,.dead,.dead,.dead,.dead,.dead,.dead,.dead,.dead,.dead,.dead,.dead,.dead,.dead,.dead,.dead,.dead,.dead,.dead,.dead,.dead,.dead,.dead,.dead,.dead,.dead,.dead,.dead,.dead,.dead,.dead,.dead],[(0,false,[.str a.1.1.1,.int .i64 a.1.1.2.1.1,.int .i64 a.1.1.2.1.2.1,.int .i64 a.1.1.2.1.2.2,.slice .ro 2 a.1.1.2.2.length (gl aE a.1.1.2.2),.bool a.1.2.1,.int .i64 a.1.2.2]),(1,false,[.str a.2.2.1,.str a.2.2.2.1,.int .i64 a.2.2.2.2.1,.int .i64 a.2.2.2.2.2.1.1,.int .i64 a.2.2.2.2.2.1.2.1,.int .i64 a.2.2.2.2.2.1.2.2,.slice .ro 2 a.2.2.2.2.2.2.1.length (gl aE a.2.2.2.2.2.2.1),.str a.2.2.2.2.2.2.2.1,.str a.2.2.2.2.2.2.2.2.1,.int .i64 a.2.2.2.2.2.2.2.2.2])],[]⟩
def f401.l0 (a:aC×(List (aA))×aF) (K:((List (Int))×Int)→Prop) (t:(List (Int))×Int):Prop:=∃ x:(List (Int))×Int,SlS aB a.2.1 (SlQ t.1.length x.1.length (gl bC t.1) (gl bC x.1) (((a.2.1.length:Int)=(a.2.1.length:Int))∧(t.2=x.2)∧(a.1.1.1=a.1.1.1)∧(a.1.1.2.1.1=a.1.1.2.1.1)∧(a.1.1.2.1.2.1=a.1.1.2.1.2.1)∧(a.1.1.2.1.2.2=a.1.1.2.1.2.2)∧SlS aE a.1.1.2.2 ((a.1.2.1=a.1.2.1)∧(a.1.2.2=a.1.2.2)∧(a.2.2.1=a.2.2.1)∧(a.2.2.2.1=a.2.2.2.1)∧(a.2.2.2.2.1=a.2.2.2.2.1)∧(a.2.2.2.2.2.1.1=a.2.2.2.2.2.1.1)∧(a.2.2.2.2.2.1.2.1=a.2.2.2.2.2.1.2.1)∧(a.2.2.2.2.2.1.2.2=a.2.2.2.2.2.1.2.2)∧SlS aE a.2.2.2.2.2.2.1 ((a.2.2.2.2.2.2.2.1=a.2.2.2.2.2.2.2.1)∧(a.2.2.2.2.2.2.2.2.1=a.2.2.2.2.2.2.2.2.1)∧(a.2.2.2.2.2.2.2.2.2=a.2.2.2.2.2.2.2.2.2)∧K x))))
theorem f401.l0i (a:aC×(List (aA))×aF) {K:((List (Int))×Int)→Prop} {t:(List (Int))×Int} (h:K t):f401.l0 a K t:=⟨t,SlS.mk  (slQ (Rds.self (enc:=bC)) (⟨rfl,⟨rfl,⟨rfl,⟨rfl,⟨rfl,⟨rfl,SlS.mk  (⟨rfl,⟨rfl,⟨rfl,⟨rfl,⟨rfl,⟨rfl,⟨rfl,⟨rfl,SlS.mk  (⟨rfl,⟨rfl,⟨rfl,h⟩⟩⟩)⟩⟩⟩⟩⟩⟩⟩⟩)⟩⟩⟩⟩⟩⟩))⟩
def f401.l1 (a:aC×(List (aA))×aF) (K:((List (Int))×Int×Int×Int)→Prop) (t:(List (Int))×Int×Int×Int):Prop:=∃ x:(List (Int))×Int×Int×Int,SlS aB a.2.1 (SlQ t.1.length x.1.length (gl bC t.1) (gl bC x.1) ((t.2.1=x.2.1)∧(t.2.2.1=x.2.2.1)∧((a.2.1.length:Int)=(a.2.1.length:Int))∧(t.2.2.2=x.2.2.2)∧(a.1.1.1=a.1.1.1)∧(a.1.1.2.1.1=a.1.1.2.1.1)∧(a.1.1.2.1.2.1=a.1.1.2.1.2.1)∧(a.1.1.2.1.2.2=a.1.1.2.1.2.2)∧SlS aE a.1.1.2.2 ((a.1.2.1=a.1.2.1)∧(a.1.2.2=a.1.2.2)∧(a.2.2.1=a.2.2.1)∧(a.2.2.2.1=a.2.2.2.1)∧(a.2.2.2.2.1=a.2.2.2.2.1)∧(a.2.2.2.2.2.1.1=a.2.2.2.2.2.1.1)∧(a.2.2.2.2.2.1.2.1=a.2.2.2.2.2.1.2.1)∧(a.2.2.2.2.2.1.2.2=a.2.2.2.2.2.1.2.2)∧SlS aE a.2.2.2.2.2.2.1 ((a.2.2.2.2.2.2.2.1=a.2.2.2.2.2.2.2.1)∧(a.2.2.2.2.2.2.2.2.1=a.2.2.2.2.2.2.2.2.1)∧(a.2.2.2.2.2.2.2.2.2=a.2.2.2.2.2.2.2.2.2)∧K x))))
theorem f401.l1i (a:aC×(List (aA))×aF) {K:((List (Int))×Int×Int×Int)→Prop} {t:(List (Int))×Int×Int×Int} (h:K t):f401.l1 a K t:=⟨t,SlS.mk  (slQ (Rds.self (enc:=bC)) (⟨rfl,⟨rfl,⟨rfl,⟨rfl,⟨rfl,⟨rfl,⟨rfl,⟨rfl,SlS.mk  (⟨rfl,⟨rfl,⟨rfl,⟨rfl,⟨rfl,⟨rfl,⟨rfl,⟨rfl,SlS.mk  (⟨rfl,⟨rfl,⟨rfl,h⟩⟩⟩)⟩⟩⟩⟩⟩⟩⟩⟩)⟩⟩⟩⟩⟩⟩⟩⟩))⟩
def f401.kills (a:aC×(List (aA))×aF):List cB:=[.tell ((List (Int))×Int) (f401.S0 a),
 .tell ((List (Int))×Int×Int×Int) (f401.S1 a)]
def f401.cuts (a:aC×(List (aA))×aF):List (Nat×Σ β:Type,β→Tm):=[]
def f401.af (a:aC×(List (aA))×aF):AF:=AF.mk (.seq (.region [oT 3 0 .box [0],
 oT 5 1 .box [2],
 oT 6 2 (.nilSl 1) []])
 (.seq (.region [oT 7 3 (.nilSl 1) []])
 (.seq (.seq (.region [oT 11 4 .move [1],
 oT 12 5 (.len false) [11],
 ⟨(some 13),6,.move,[.c (.int .i64 (0))],none⟩])
 (.block 0 (.loopT ((List (Int))×Int) (f401.S0 a) 7 76 (.seq (.region [oT 14 7 (.bin .lss) [13,12]])
 (.seq (.cond (.t 14) (.skip) (.exit 0))
 (.seq (.block 1 (.seq (.region [oT 15 8 .move [13],
 oT 8 9 .move [15]])
 (.seq (.seq (.region [oT 16 10 .move [1],
 oT 17 11 .move [8],
 oT 18 12 (.indexAddr 13 none) [16,17],
 oT 19 13 (.fieldAddr 11) [18],
 oT 20 14 (.load false 1) [19],
 oT 21 15 (.fieldAddr 0) [3],
 oT 22 16 (.fieldAddr 0) [21],
 oT 23 17 (.load false 1) [22],
 oT 24 18 (.bin .neq) [20,23],
 oT 25 19 .move [24],
 oG 26 20 .move [1] 25 false,
 oG 27 21 .move [8] 25 false,
 oG 28 22 (.indexAddr 13 none) [26,27] 25 false,
 oG 29 23 (.fieldAddr 0) [28] 25 false,
 oG 30 24 (.fieldAddr 2) [29] 25 false,
 oG 31 25 (.load false 1) [30] 25 false,
 oG 32 26 (.fieldAddr 2) [5] 25 false,
 oG 33 27 (.load false 1) [32] 25 false,
 oG 34 28 (.bin .geq) [31,33] 25 false,
 ⟨(some 35),29,.pick,[.t 25,.c (.bool true),.t 34],none⟩])
 (.cond (.t 35) (.exit 1) (.skip)))
 (.seq (.region [oT 36 30 .move [7],
 oT 37 31 (.len false) [36],
 oT 9 32 .move [37]])
 (.seq (.block 2 (.loopT ((List (Int))×Int×Int×Int) (f401.S1 a) 33 56 (.seq (.seq (.region [oT 38 33 .move [9],
 ⟨(some 39),34,(.bin .gtr),[.t 38,.c (.int .i64 (0))],none⟩,
 oT 40 35 .move [39],
 oG 41 36 .move [1] 40 true,
 oG 42 37 .move [8] 40 true,
 oG 43 38 (.indexAddr 13 none) [41,42] 40 true,
 oG 44 39 (.load true 13) [43] 40 true,
 oG 45 40 .move [1] 40 true,
 oG 46 41 .move [7] 40 true,
 oG 47 42 .move [9] 40 true,
 ⟨(some 48),43,(.bin .sub),[.t 47,.c (.int .i64 (1))],(some (40,true))⟩,
 oG 49 44 (.indexAddr 1 none) [46,48] 40 true,
 oG 50 45 (.load false 1) [49] 40 true,
 oG 51 46 (.indexAddr 13 none) [45,50] 40 true,
 oG 52 47 (.load true 13) [51] 40 true,
 oG 53 48 (.call false 403) [44,52] 40 true,
 ⟨(some 54),52,.pick,[.t 40,.t 53,.c (.bool false)],none⟩])
 (.cond (.t 54) (.skip) (.exit 2)))
 (.block 3 (.region [oT 55 53 .move [9],
 ⟨(some 56),54,(.bin .sub),[.t 55,.c (.int .i64 (1))],none⟩,
 oT 9 55 .move [56]])))))
 (.seq (.region [oT 10 56 (.nilSl 1) []])
 (.seq (.region [oT 57 57 .move [10],
 oT 58 58 .move [7],
 oT 59 59 .move [9],
 oT 60 60 (.sliceSl 1 false true false) [58,59],
 oT 61 61 (.append 1 8) [57,60],
 oT 10 62 .move [61]])
 (.seq (.region [oT 62 63 .move [10],
 oT 63 64 .move [8],
 oT 64 65 (.buildSlice 1 1 [.int .i64 (0)] [(0,1)]) [63],
 oT 65 66 (.append 1 8) [62,64],
 oT 10 67 .move [65]])
 (.region [oT 66 68 .move [10],
 oT 67 69 .move [7],
 oT 68 70 .move [9],
 oT 69 71 (.sliceSl 1 true false false) [67,68],
 oT 70 72 (.append 1 8) [66,69],
 oT 7 73 .move [70]])))))))))
 (.region [⟨(some 71),74,(.bin .add),[.t 13,.c (.int .i64 (1))],none⟩,
 oT 13 75 .move [71]])))))))
 (.seq (.region [oT 72 76 .move [7],
 oT 6 77 .move [72]])
 (.ret)))))
 [.tmp 6] 0 70
def f401.env:Env:=[(403,f403.C)]
def f401.tree (a:aC×(List (aA))×aF):Prop:=∃ (I2:((List (Int))×Int)→Prop) (μ3:((List (Int))×Int)→Nat),(∃ x1:(List (Int))×Int,SlS aB a.2.1 (SlQ 0 x1.1.length cO (gl bC x1.1) (((a.2.1.length:Int)=(a.2.1.length:Int))∧((0:Int)=x1.2)∧(a.1.1.1=a.1.1.1)∧(a.1.1.2.1.1=a.1.1.2.1.1)∧(a.1.1.2.1.2.1=a.1.1.2.1.2.1)∧(a.1.1.2.1.2.2=a.1.1.2.1.2.2)∧SlS aE a.1.1.2.2 ((a.1.2.1=a.1.2.1)∧(a.1.2.2=a.1.2.2)∧(a.2.2.1=a.2.2.1)∧(a.2.2.2.1=a.2.2.2.1)∧(a.2.2.2.2.1=a.2.2.2.2.1)∧(a.2.2.2.2.2.1.1=a.2.2.2.2.2.1.1)∧(a.2.2.2.2.2.1.2.1=a.2.2.2.2.2.1.2.1)∧(a.2.2.2.2.2.1.2.2=a.2.2.2.2.2.1.2.2)∧SlS aE a.2.2.2.2.2.2.1 ((a.2.2.2.2.2.2.2.1=a.2.2.2.2.2.2.2.1)∧(a.2.2.2.2.2.2.2.2.1=a.2.2.2.2.2.2.2.2.1)∧(a.2.2.2.2.2.2.2.2.2=a.2.2.2.2.2.2.2.2.2)∧I2 x1)))))∧∀ y4:(List (Int))×Int,I2 y4→(Br (decide (y4.2 < (a.2.1.length:Int))) (Br (decide ((0:Int)≤y4.2)&&decide (y4.2 < (a.2.1.length:Int))) (Br (!(((at_ a.2.1 y4.2).2.2.1).toList==a.1.1.1.toList)) (Let (IntKind.i64.wrap (y4.2+(1:Int))) (fun v10:Int=>f401.l0 a (Dn I2 μ3 y4) (y4.1,v10))) (Br (decide ((0:Int)≤y4.2)&&decide (y4.2 < (a.2.1.length:Int))) (Br (decide (a.2.2.2.2.1≤(((at_ a.2.1 y4.2).1).2.2.1))) (Let (IntKind.i64.wrap (y4.2+(1:Int))) (fun v19:Int=>f401.l0 a (Dn I2 μ3 y4) (y4.1,v19))) (∃ (I26:((List (Int))×Int×Int×Int)→Prop) (μ27:((List (Int))×Int×Int×Int)→Nat),(f401.l1 a I26 (y4.1,y4.2,(y4.1.length:Int),y4.2))∧∀ y28:(List (Int))×Int×Int×Int,I26 y28→(Br (decide ((0:Int) < y28.2.2.1)) (Br (decide ((0:Int)≤y28.2.1)&&decide (y28.2.1 < (a.2.1.length:Int))) (Let (IntKind.i64.wrap (y28.2.2.1 - (1:Int))) (fun v32:Int=>Br (decide ((0:Int)≤v32)&&decide (v32 < (y28.1.length:Int))) (Br (decide ((0:Int)≤(at_ y28.1 v32))&&decide ((at_ y28.1 v32) < (a.2.1.length:Int))) (f403.ent (fun c35=>True∧Br (jE c35) (Let (IntKind.i64.wrap (y28.2.2.1 - (1:Int))) (fun v38:Int=>f401.l1 a (Dn I26 μ27 y28) (y28.1,y28.2.1,v38,y28.2.2.2))) (Br (decide ((0:Int)≤(0:Int))&&decide ((0:Int)≤y28.2.2.1)&&decide (y28.2.2.1≤(y28.1.length:Int))&&(y28.2.2.1==y28.2.2.1)) ((0=0∧k6 ((0+(Int.toNat (y28.2.2.1 - (0:Int)))) * 8))∧(((0+(Int.toNat (y28.2.2.1 - (0:Int))))=(0+(Int.toNat (y28.2.2.1 - (0:Int))))∧k6 (((0+(Int.toNat (y28.2.2.1 - (0:Int))))+1) * 8))∧(Br (decide ((0:Int)≤y28.2.2.1)&&decide (y28.2.2.1≤(y28.1.length:Int))&&decide ((y28.1.length:Int)≤(y28.1.length:Int))&&((y28.1.length:Int)==(y28.1.length:Int))) ((((0+(Int.toNat (y28.2.2.1 - (0:Int))))+1)=((0+(Int.toNat (y28.2.2.1 - (0:Int))))+1)∧k6 ((((0+(Int.toNat (y28.2.2.1 - (0:Int))))+1)+(Int.toNat ((y28.1.length:Int) - y28.2.2.1))) * 8))∧(Let (IntKind.i64.wrap (y28.2.2.2+(1:Int))) (fun v46:Int=>∃ x47:(List (Int))×Int,SlS aB a.2.1 (SlQ (((0+(Int.toNat (y28.2.2.1 - (0:Int))))+1)+(Int.toNat ((y28.1.length:Int) - y28.2.2.1))) x47.1.length (fF (fF (fF cO 0 (tL (gl bC y28.1) 0)) (0+(Int.toNat (y28.2.2.1 - (0:Int)))) (fun _=>[.int .i64 y28.2.1])) ((0+(Int.toNat (y28.2.2.1 - (0:Int))))+1) (tL (gl bC y28.1) (Int.toNat y28.2.2.1))) (gl bC x47.1) (((a.2.1.length:Int)=(a.2.1.length:Int))∧(v46=x47.2)∧(a.1.1.1=a.1.1.1)∧(a.1.1.2.1.1=a.1.1.2.1.1)∧(a.1.1.2.1.2.1=a.1.1.2.1.2.1)∧(a.1.1.2.1.2.2=a.1.1.2.1.2.2)∧SlS aE a.1.1.2.2 ((a.1.2.1=a.1.2.1)∧(a.1.2.2=a.1.2.2)∧(a.2.2.1=a.2.2.1)∧(a.2.2.2.1=a.2.2.2.1)∧(a.2.2.2.2.1=a.2.2.2.2.1)∧(a.2.2.2.2.2.1.1=a.2.2.2.2.2.1.1)∧(a.2.2.2.2.2.1.2.1=a.2.2.2.2.2.1.2.1)∧(a.2.2.2.2.2.1.2.2=a.2.2.2.2.2.1.2.2)∧SlS aE a.2.2.2.2.2.2.1 ((a.2.2.2.2.2.2.2.1=a.2.2.2.2.2.2.2.1)∧(a.2.2.2.2.2.2.2.2.1=a.2.2.2.2.2.2.2.2.1)∧(a.2.2.2.2.2.2.2.2.2=a.2.2.2.2.2.2.2.2.2)∧I2 x47∧μ3 x47 < μ3 y4))))))) False))) False)) ((((at_ a.2.1 y28.2.1).1),(at_ a.2.1 y28.2.1).2.1,(at_ a.2.1 y28.2.1).2.2.1,(at_ a.2.1 y28.2.1).2.2.2),(((at_ a.2.1 (at_ y28.1 v32)).1),(at_ a.2.1 (at_ y28.1 v32)).2.1,(at_ a.2.1 (at_ y28.1 v32)).2.2.1,(at_ a.2.1 (at_ y28.1 v32)).2.2.2))) False) False)) False) (Br (decide ((0:Int)≤(0:Int))&&decide ((0:Int)≤y28.2.2.1)&&decide (y28.2.2.1≤(y28.1.length:Int))&&(y28.2.2.1==y28.2.2.1)) ((0=0∧k6 ((0+(Int.toNat (y28.2.2.1 - (0:Int)))) * 8))∧(((0+(Int.toNat (y28.2.2.1 - (0:Int))))=(0+(Int.toNat (y28.2.2.1 - (0:Int))))∧k6 (((0+(Int.toNat (y28.2.2.1 - (0:Int))))+1) * 8))∧(Br (decide ((0:Int)≤y28.2.2.1)&&decide (y28.2.2.1≤(y28.1.length:Int))&&decide ((y28.1.length:Int)≤(y28.1.length:Int))&&((y28.1.length:Int)==(y28.1.length:Int))) ((((0+(Int.toNat (y28.2.2.1 - (0:Int))))+1)=((0+(Int.toNat (y28.2.2.1 - (0:Int))))+1)∧k6 ((((0+(Int.toNat (y28.2.2.1 - (0:Int))))+1)+(Int.toNat ((y28.1.length:Int) - y28.2.2.1))) * 8))∧(Let (IntKind.i64.wrap (y28.2.2.2+(1:Int))) (fun v65:Int=>∃ x66:(List (Int))×Int,SlS aB a.2.1 (SlQ (((0+(Int.toNat (y28.2.2.1 - (0:Int))))+1)+(Int.toNat ((y28.1.length:Int) - y28.2.2.1))) x66.1.length (fF (fF (fF cO 0 (tL (gl bC y28.1) 0)) (0+(Int.toNat (y28.2.2.1 - (0:Int)))) (fun _=>[.int .i64 y28.2.1])) ((0+(Int.toNat (y28.2.2.1 - (0:Int))))+1) (tL (gl bC y28.1) (Int.toNat y28.2.2.1))) (gl bC x66.1) (((a.2.1.length:Int)=(a.2.1.length:Int))∧(v65=x66.2)∧(a.1.1.1=a.1.1.1)∧(a.1.1.2.1.1=a.1.1.2.1.1)∧(a.1.1.2.1.2.1=a.1.1.2.1.2.1)∧(a.1.1.2.1.2.2=a.1.1.2.1.2.2)∧SlS aE a.1.1.2.2 ((a.1.2.1=a.1.2.1)∧(a.1.2.2=a.1.2.2)∧(a.2.2.1=a.2.2.1)∧(a.2.2.2.1=a.2.2.2.1)∧(a.2.2.2.2.1=a.2.2.2.2.1)∧(a.2.2.2.2.2.1.1=a.2.2.2.2.2.1.1)∧(a.2.2.2.2.2.1.2.1=a.2.2.2.2.2.1.2.1)∧(a.2.2.2.2.2.1.2.2=a.2.2.2.2.2.1.2.2)∧SlS aE a.2.2.2.2.2.2.1 ((a.2.2.2.2.2.2.2.1=a.2.2.2.2.2.2.2.1)∧(a.2.2.2.2.2.2.2.2.1=a.2.2.2.2.2.2.2.2.1)∧(a.2.2.2.2.2.2.2.2.2=a.2.2.2.2.2.2.2.2.2)∧I2 x66∧μ3 x66 < μ3 y4))))))) False))) False)))) False)) False) (SlQ y4.1.length ((fW a).length) (gl bC y4.1) (gl bC (fW a)) (True)))
def f401.vc (a:aC×(List (aA))×aF):Prop:=(∃ (I2:((List (Int))×Int)→Prop) (μ3:((List (Int))×Int)→Nat),I2 ([],(0:Int))∧∀ y4:(List (Int))×Int,I2 y4→((y4.2 < (a.2.1.length:Int)→((0:Int)≤y4.2∧y4.2 < (a.2.1.length:Int)∧((¬(((at_ a.2.1 y4.2).2.2.1)=a.1.1.1)→(-9223372036854775808≤(y4.2+(1:Int))∧(y4.2+(1:Int))≤9223372036854775807∧(I2 (y4.1,(y4.2+(1:Int)))∧μ3 (y4.1,(y4.2+(1:Int))) < μ3 y4)))∧(¬(¬(((at_ a.2.1 y4.2).2.2.1)=a.1.1.1))→((0:Int)≤y4.2∧y4.2 < (a.2.1.length:Int)∧((a.2.2.2.2.1≤(((at_ a.2.1 y4.2).1).2.2.1)→(-9223372036854775808≤(y4.2+(1:Int))∧(y4.2+(1:Int))≤9223372036854775807∧(I2 (y4.1,(y4.2+(1:Int)))∧μ3 (y4.1,(y4.2+(1:Int))) < μ3 y4)))∧(¬(a.2.2.2.2.1≤(((at_ a.2.1 y4.2).1).2.2.1))→(∃ (I26:((List (Int))×Int×Int×Int)→Prop) (μ27:((List (Int))×Int×Int×Int)→Nat),I26 (y4.1,y4.2,(y4.1.length:Int),y4.2)∧∀ y28:(List (Int))×Int×Int×Int,I26 y28→(((0:Int) < y28.2.2.1→((0:Int)≤y28.2.1∧y28.2.1 < (a.2.1.length:Int)∧(-9223372036854775808≤(y28.2.2.1 - (1:Int))∧(y28.2.2.1 - (1:Int))≤9223372036854775807∧((0:Int)≤(y28.2.2.1 - (1:Int))∧(y28.2.2.1 - (1:Int)) < (y28.1.length:Int)∧((0:Int)≤(at_ y28.1 (y28.2.2.1 - (1:Int)))∧(at_ y28.1 (y28.2.2.1 - (1:Int))) < (a.2.1.length:Int)∧(((jE ((((at_ a.2.1 y28.2.1).1),(at_ a.2.1 y28.2.1).2.1,(at_ a.2.1 y28.2.1).2.2.1,(at_ a.2.1 y28.2.1).2.2.2),(((at_ a.2.1 (at_ y28.1 (y28.2.2.1 - (1:Int)))).1),(at_ a.2.1 (at_ y28.1 (y28.2.2.1 - (1:Int)))).2.1,(at_ a.2.1 (at_ y28.1 (y28.2.2.1 - (1:Int)))).2.2.1,(at_ a.2.1 (at_ y28.1 (y28.2.2.1 - (1:Int)))).2.2.2)))=true→(-9223372036854775808≤(y28.2.2.1 - (1:Int))∧(y28.2.2.1 - (1:Int))≤9223372036854775807∧(I26 (y28.1,y28.2.1,(y28.2.2.1 - (1:Int)),y28.2.2.2)∧μ27 (y28.1,y28.2.1,(y28.2.2.1 - (1:Int)),y28.2.2.2) < μ27 y28)))∧(¬((jE ((((at_ a.2.1 y28.2.1).1),(at_ a.2.1 y28.2.1).2.1,(at_ a.2.1 y28.2.1).2.2.1,(at_ a.2.1 y28.2.1).2.2.2),(((at_ a.2.1 (at_ y28.1 (y28.2.2.1 - (1:Int)))).1),(at_ a.2.1 (at_ y28.1 (y28.2.2.1 - (1:Int)))).2.1,(at_ a.2.1 (at_ y28.1 (y28.2.2.1 - (1:Int)))).2.2.1,(at_ a.2.1 (at_ y28.1 (y28.2.2.1 - (1:Int)))).2.2.2)))=true)→((0:Int)≤y28.2.2.1∧y28.2.2.1≤(y28.1.length:Int)∧(0+(Int.toNat (y28.2.2.1 - (0:Int)))≤1073741824∧((0+(Int.toNat (y28.2.2.1 - (0:Int))))+1≤1073741824∧((0:Int)≤y28.2.2.1∧y28.2.2.1≤(y28.1.length:Int)∧(((0+(Int.toNat (y28.2.2.1 - (0:Int))))+1)+(Int.toNat ((y28.1.length:Int) - y28.2.2.1))≤1073741824∧(-9223372036854775808≤(y28.2.2.2+(1:Int))∧(y28.2.2.2+(1:Int))≤9223372036854775807∧(I2 (((([])++(gK y28.1 (0:Int) y28.2.2.1))++([y28.2.1]))++(gK y28.1 y28.2.2.1 (y28.1.length:Int)),(y28.2.2.2+(1:Int)))∧μ3 (((([])++(gK y28.1 (0:Int) y28.2.2.1))++([y28.2.1]))++(gK y28.1 y28.2.2.1 (y28.1.length:Int)),(y28.2.2.2+(1:Int))) < μ3 y4))))))))))))))∧(¬((0:Int) < y28.2.2.1)→((0:Int)≤y28.2.2.1∧y28.2.2.1≤(y28.1.length:Int)∧(0+(Int.toNat (y28.2.2.1 - (0:Int)))≤1073741824∧((0+(Int.toNat (y28.2.2.1 - (0:Int))))+1≤1073741824∧((0:Int)≤y28.2.2.1∧y28.2.2.1≤(y28.1.length:Int)∧(((0+(Int.toNat (y28.2.2.1 - (0:Int))))+1)+(Int.toNat ((y28.1.length:Int) - y28.2.2.1))≤1073741824∧(-9223372036854775808≤(y28.2.2.2+(1:Int))∧(y28.2.2.2+(1:Int))≤9223372036854775807∧(I2 (((([])++(gK y28.1 (0:Int) y28.2.2.1))++([y28.2.1]))++(gK y28.1 y28.2.2.1 (y28.1.length:Int)),(y28.2.2.2+(1:Int)))∧μ3 (((([])++(gK y28.1 (0:Int) y28.2.2.1))++([y28.2.1]))++(gK y28.1 y28.2.2.1 (y28.1.length:Int)),(y28.2.2.2+(1:Int))) < μ3 y4)))))))))))))))))∧(¬(y4.2 < (a.2.1.length:Int))→(y4.1=fW a))))
set_option maxRecDepth 100000 in
set_option maxHeartbeats 2000000 in
theorem f401.of (a:aC×(List (aA))×aF) (h:f401.vc a):f401.tree a:=Exists.elim h (fun I2 h87_=>Exists.elim h87_ (fun μ3 h87=>⟨I2,μ3,⟨([],(0:Int)),SlS.mk  (slQ (Rds.nil (enc:=bC)) (⟨rfl,⟨rfl,⟨rfl,⟨rfl,⟨rfl,⟨rfl,SlS.mk  (⟨rfl,⟨rfl,⟨rfl,⟨rfl,⟨rfl,⟨rfl,⟨rfl,⟨rfl,SlS.mk  (⟨rfl,⟨rfl,⟨rfl,h87.1⟩⟩⟩)⟩⟩⟩⟩⟩⟩⟩⟩)⟩⟩⟩⟩⟩⟩))⟩,fun y4 h89=>br (h87.2 y4 h89) Cnd.dec (fun h5 k85=>chk k85.2.2 Cnd.ix ⟨k85.1,k85.2.1⟩ (fun h7 k83=>br k83 (Cnd.not Cnd.seq) (fun h8 k81=>wrapK.i64 k81 (fun h13 h14 k15=>(f401.l0i a k15))) (fun h9 k82=>chk k82.2.2 Cnd.ix ⟨k82.1,k82.2.1⟩ (fun h16 k80=>br k80 Cnd.dec (fun h17 k78=>wrapK.i64 k78 (fun h22 h23 k24=>(f401.l0i a k24))) (fun h18 k79=>Exists.elim k79 (fun I26 h75_=>Exists.elim h75_ (fun μ27 h75=>⟨I26,μ27,(f401.l1i a h75.1),fun y28 h77=>br (h75.2 y28 h77) Cnd.dec (fun h29 k73=>chk k73.2.2 Cnd.ix ⟨k73.1,k73.2.1⟩ (fun h31 k62=>wrapK.i64 k62 (fun h59 h60 k61=>chk k61.2.2 Cnd.ix ⟨k61.1,k61.2.1⟩ (fun h33 k58=>chk k58.2.2 Cnd.ix ⟨k58.1,k58.2.1⟩ (fun h34 k57=>(f403.ei ⟨trivial,br k57 Cnd.b (fun h36 k54=>wrapK.i64 k54 (fun h41 h42 k43=>(f401.l1i a k43))) (fun h37 k55=>chk k55.2.2 Cnd.sl ⟨(by decide),k55.1,k55.2.1⟩ (fun h44 k53=>⟨⟨rfl,(f7 k53.1 (by decide))⟩,⟨⟨rfl,(f7 k53.2.1 (by decide))⟩,chk k53.2.2.2.2 Cnd.sl ⟨k53.2.2.1,k53.2.2.2.1,(Int.le_refl _)⟩ (fun h45 k52=>⟨⟨rfl,(f7 k52.1 (by decide))⟩,wrapK.i64 k52.2 (fun h49 h50 k51=>⟨(((([])++(gK y28.1 (0:Int) y28.2.2.1))++([y28.2.1]))++(gK y28.1 y28.2.2.1 (y28.1.length:Int)),(y28.2.2.2+(1:Int))),SlS.mk  (slQ (Rds.app (enc:=bC) (Rds.app (enc:=bC) (Rds.app (enc:=bC) (Rds.nil (enc:=bC)) (Rds.sub (enc:=bC) (Rds.self (enc:=bC)) h44)) (Rds.one (enc:=bC) (DEqs.refl _))) (Rds.sub (enc:=bC) (Rds.self (enc:=bC)) h45)) (⟨rfl,⟨rfl,⟨rfl,⟨rfl,⟨rfl,⟨rfl,SlS.mk  (⟨rfl,⟨rfl,⟨rfl,⟨rfl,⟨rfl,⟨rfl,⟨rfl,⟨rfl,SlS.mk  (⟨rfl,⟨rfl,⟨rfl,k51⟩⟩⟩)⟩⟩⟩⟩⟩⟩⟩⟩)⟩⟩⟩⟩⟩⟩))⟩)⟩)⟩⟩))⟩)))))) (fun h30 k74=>chk k74.2.2 Cnd.sl ⟨(by decide),k74.1,k74.2.1⟩ (fun h63 k72=>⟨⟨rfl,(f7 k72.1 (by decide))⟩,⟨⟨rfl,(f7 k72.2.1 (by decide))⟩,chk k72.2.2.2.2 Cnd.sl ⟨k72.2.2.1,k72.2.2.2.1,(Int.le_refl _)⟩ (fun h64 k71=>⟨⟨rfl,(f7 k71.1 (by decide))⟩,wrapK.i64 k71.2 (fun h68 h69 k70=>⟨(((([])++(gK y28.1 (0:Int) y28.2.2.1))++([y28.2.1]))++(gK y28.1 y28.2.2.1 (y28.1.length:Int)),(y28.2.2.2+(1:Int))),SlS.mk  (slQ (Rds.app (enc:=bC) (Rds.app (enc:=bC) (Rds.app (enc:=bC) (Rds.nil (enc:=bC)) (Rds.sub (enc:=bC) (Rds.self (enc:=bC)) h63)) (Rds.one (enc:=bC) (DEqs.refl _))) (Rds.sub (enc:=bC) (Rds.self (enc:=bC)) h64)) (⟨rfl,⟨rfl,⟨rfl,⟨rfl,⟨rfl,⟨rfl,SlS.mk  (⟨rfl,⟨rfl,⟨rfl,⟨rfl,⟨rfl,⟨rfl,⟨rfl,⟨rfl,SlS.mk  (⟨rfl,⟨rfl,⟨rfl,k70⟩⟩⟩)⟩⟩⟩⟩⟩⟩⟩⟩)⟩⟩⟩⟩⟩⟩))⟩)⟩)⟩⟩))⟩))))))) (fun h6 k86=>slQ (Rds.to (Rds.self (enc:=bC)) k86) (trivial))⟩))
theorem f401.eq (a:aC×(List (aA))×aF):(f401.af a).gives f401.env (f401.args a) (f401.blks a) (f401.res a) (f401.blks' a)=f401.tree a:=by kernel_rfl
end Go.Abs

-- interregnum/interregnumref13.without
namespace Go.Abs
open Go
def f402.args (a:(List (aA))×(List (Int))):List D:=[.slice .ro 13 a.1.length (gl aB a.1),.slice .ro 1 a.2.length (gl bC a.2)]
def f402.blks (a:(List (aA))×(List (Int))):List (List D):=[]
def f402.res (a:(List (aA))×(List (Int))):List D:=[.slice .ro 13 ((cW a).length) (gl aB (cW a))]
def f402.blks' (a:(List (aA))×(List (Int))):List (List D):=[]
def f402.C:aM:=FnC f402.args f402.blks (fun a=>jI a) f402.res f402.blks'
end Go.Abs

/- interregnum/interregnumref13.without -/
namespace Go.Abs
open Go
set_option linter.unusedVariables false
def f402.S0 (a:(List (aA))×(List (Int))) (x:(List (aA))×Int):Tm:=⟨[.slice .ro 13 a.1.length (gl aB a.1),.slice .ro 1 a.2.length (gl bC a.2),.dead,.dead,.dead,.slice (.own 1) 13 x.1.length (gl aB x.1),.dead,.dead,.dead,.dead,.int .i64 (a.1.length:Int),.int .i64 x.2,.dead,.dead,.dead,.dead,.dead,.dead,.dead,.dead,.dead,.dead,.dead,.dead,.dead,.dead,.dead,.dead,.dead,.dead,.dead,.dead,.dead,.dead,.dead,.dead,.dead,.dead,.dead,.dead],[],[(1,13,x.1.length)]⟩
def f402.S1 (a:(List (aA))×(List (Int))) (x:(List (aA))×Int×Bool×Int×Int):Tm:=⟨[.slice .ro 13 a.1.length (gl aB a.1),.slice .ro 1 a.2.length (gl bC a.2),.dead,.dead,.dead,.slice (.own 1) 13 x.1.length (gl aB x.1),.int .i64 x.2.1,.bool x.2.2.1,.dead,.dead,.int .i64 (a.1.length:Int),.int .i64 x.2.2.2.1,.dead,.dead,.dead,.int .i64 (a.2.length:Int),.int .i64 x.2.2.2.2,.dead,.dead,.dead,.dead,.dead,.dead,.dead,.dead,.dead,.dead,.dead,.dead,.dead,.dead,.dead,.dead,.dead,.dead,.dead,.dead,.dead,.dead,.dead],[],[(1,13,x.1.length)]⟩
def f402.kills (a:(List (aA))×(List (Int))):List cB:=[.tell ((List (aA))×Int) (f402.S0 a),
 .tell ((List (aA))×Int×Bool×Int×Int) (f402.S1 a)]
def f402.cuts (a:(List (aA))×(List (Int))):List (Nat×Σ β:Type,β→Tm):=[]
def f402.af (a:(List (aA))×(List (Int))):AF:=AF.mk (.seq (.region [oT 4 0 (.nilSl 13) []])
 (.seq (.region [oT 5 1 (.nilSl 13) []])
 (.seq (.seq (.region [oT 9 2 .move [0],
 oT 10 3 (.len false) [9],
 ⟨(some 11),4,.move,[.c (.int .i64 (0))],none⟩])
 (.block 0 (.loopT ((List (aA))×Int) (f402.S0 a) 5 39 (.seq (.region [oT 12 5 (.bin .lss) [11,10]])
 (.seq (.cond (.t 12) (.skip) (.exit 0))
 (.seq (.block 1 (.seq (.region [oT 13 6 .move [11],
 oT 6 7 .move [13]])
 (.seq (.region [⟨(some 7),8,.move,[.c (.bool false)],none⟩])
 (.seq (.seq (.region [oT 14 9 .move [1],
 oT 15 10 (.len false) [14],
 ⟨(some 16),11,.move,[.c (.int .i64 (0))],none⟩])
 (.block 2 (.loopT ((List (aA))×Int×Bool×Int×Int) (f402.S1 a) 12 27 (.seq (.region [oT 17 12 (.bin .lss) [16,15]])
 (.seq (.cond (.t 17) (.skip) (.exit 2))
 (.seq (.block 3 (.seq (.region [oT 18 13 .move [16],
 oT 8 14 .move [18]])
 (.region [oT 19 15 .move [7],
 oT 20 16 .move [19],
 oG 21 17 .move [1] 20 false,
 oG 22 18 .move [8] 20 false,
 oG 23 19 (.indexAddr 1 none) [21,22] 20 false,
 oG 24 20 (.load false 1) [23] 20 false,
 oG 25 21 .move [6] 20 false,
 oG 26 22 (.bin .eql) [24,25] 20 false,
 ⟨(some 27),23,.pick,[.t 20,.c (.bool true),.t 26],none⟩,
 oT 7 24 .move [27]])))
 (.region [⟨(some 28),25,(.bin .add),[.t 16,.c (.int .i64 (1))],none⟩,
 oT 16 26 .move [28]])))))))
 (.seq (.region [oT 29 27 .move [7],
 oT 30 28 (.un .not) [29]])
 (.cond (.t 30) (.region [oT 31 29 .move [5],
 oT 32 30 .move [0],
 oT 33 31 .move [6],
 oT 34 32 (.indexAddr 13 none) [32,33],
 oT 35 33 (.load true 13) [34],
 oT 36 34 (.buildSlice 13 1 [.str ByteArray.empty,.str ByteArray.empty,.int .i64 (0),.int .i64 (0),.int .i64 (0),.int .i64 (0),.slice .full 2 0 cO,.str ByteArray.empty,.str ByteArray.empty,.int .i64 (0),.int .i64 (0),.str ByteArray.empty,.int .i64 (0)] [(0,13)]) [35],
 oT 37 35 (.append 13 160) [31,36],
 oT 5 36 .move [37]]) (.skip)))))))
 (.region [⟨(some 38),37,(.bin .add),[.t 11,.c (.int .i64 (1))],none⟩,
 oT 11 38 .move [38]])))))))
 (.seq (.region [oT 39 39 .move [5],
 oT 4 40 .move [39]])
 (.ret)))))
 [.tmp 4] 0 38
def f402.env:Env:=[]
def f402.tree (a:(List (aA))×(List (Int))):Prop:=∃ (I2:((List (aA))×Int)→Prop) (μ3:((List (aA))×Int)→Nat),(∃ x1:(List (aA))×Int,SlS aB a.1 (SlS bC a.2 (SlQ 0 x1.1.length cO (gl aB x1.1) (((a.1.length:Int)=(a.1.length:Int))∧((0:Int)=x1.2)∧(0=x1.1.length)∧I2 x1))))∧∀ y4:(List (aA))×Int,I2 y4→(Br (decide (y4.2 < (a.1.length:Int))) (∃ (I8:((List (aA))×Int×Bool×Int×Int)→Prop) (μ9:((List (aA))×Int×Bool×Int×Int)→Nat),(∃ x7:(List (aA))×Int×Bool×Int×Int,SlS aB a.1 (SlS bC a.2 (SlQ y4.1.length x7.1.length (gl aB y4.1) (gl aB x7.1) ((y4.2=x7.2.1)∧(false=x7.2.2.1)∧((a.1.length:Int)=(a.1.length:Int))∧(y4.2=x7.2.2.2.1)∧((a.2.length:Int)=(a.2.length:Int))∧((0:Int)=x7.2.2.2.2)∧(y4.1.length=x7.1.length)∧I8 x7))))∧∀ y10:(List (aA))×Int×Bool×Int×Int,I8 y10→(Br (decide (y10.2.2.2.2 < (a.2.length:Int))) (Br y10.2.2.1 (Let (IntKind.i64.wrap (y10.2.2.2.2+(1:Int))) (fun v15:Int=>∃ x16:(List (aA))×Int×Bool×Int×Int,SlS aB a.1 (SlS bC a.2 (SlQ y10.1.length x16.1.length (gl aB y10.1) (gl aB x16.1) ((y10.2.1=x16.2.1)∧(true=x16.2.2.1)∧((a.1.length:Int)=(a.1.length:Int))∧(y10.2.2.2.1=x16.2.2.2.1)∧((a.2.length:Int)=(a.2.length:Int))∧(v15=x16.2.2.2.2)∧(y10.1.length=x16.1.length)∧I8 x16∧μ9 x16 < μ9 y10))))) (Br (decide ((0:Int)≤y10.2.2.2.2)&&decide (y10.2.2.2.2 < (a.2.length:Int))) (Let (IntKind.i64.wrap (y10.2.2.2.2+(1:Int))) (fun v22:Int=>∃ x23:(List (aA))×Int×Bool×Int×Int,SlS aB a.1 (SlS bC a.2 (SlQ y10.1.length x23.1.length (gl aB y10.1) (gl aB x23.1) ((y10.2.1=x23.2.1)∧(((at_ a.2 y10.2.2.2.2)==y10.2.1)=x23.2.2.1)∧((a.1.length:Int)=(a.1.length:Int))∧(y10.2.2.2.1=x23.2.2.2.1)∧((a.2.length:Int)=(a.2.length:Int))∧(v22=x23.2.2.2.2)∧(y10.1.length=x23.1.length)∧I8 x23∧μ9 x23 < μ9 y10))))) False)) (Br (!y10.2.2.1) (Br (decide ((0:Int)≤y10.2.1)&&decide (y10.2.1 < (a.1.length:Int))) ((y10.1.length=y10.1.length∧k6 ((y10.1.length+1) * 160))∧(Let (IntKind.i64.wrap (y10.2.2.2.1+(1:Int))) (fun v34:Int=>∃ x35:(List (aA))×Int,SlS aB a.1 (SlS bC a.2 (SlQ (y10.1.length+1) x35.1.length (fF (gl aB y10.1) y10.1.length (fun _=>[.str (((at_ a.1 y10.2.1).1).1),.str (((at_ a.1 y10.2.1).1).2.1),.int .i64 (((at_ a.1 y10.2.1).1).2.2.1),.int .i64 ((((at_ a.1 y10.2.1).1).2.2.2.1).1),.int .i64 ((((at_ a.1 y10.2.1).1).2.2.2.1).2.1),.int .i64 ((((at_ a.1 y10.2.1).1).2.2.2.1).2.2),.slice .ro 2 ((((at_ a.1 y10.2.1).1).2.2.2.2.1).length) (gl aE (((at_ a.1 y10.2.1).1).2.2.2.2.1)),.str (((at_ a.1 y10.2.1).1).2.2.2.2.2.1),.str (((at_ a.1 y10.2.1).1).2.2.2.2.2.2.1),.int .i64 (((at_ a.1 y10.2.1).1).2.2.2.2.2.2.2),.int .i64 ((at_ a.1 y10.2.1).2.1),.str ((at_ a.1 y10.2.1).2.2.1),.int .i64 ((at_ a.1 y10.2.1).2.2.2)])) (gl aB x35.1) (((a.1.length:Int)=(a.1.length:Int))∧(v34=x35.2)∧((y10.1.length+1)=x35.1.length)∧I2 x35∧μ3 x35 < μ3 y4)))))) False) (Let (IntKind.i64.wrap (y10.2.2.2.1+(1:Int))) (fun v41:Int=>∃ x42:(List (aA))×Int,SlS aB a.1 (SlS bC a.2 (SlQ y10.1.length x42.1.length (gl aB y10.1) (gl aB x42.1) (((a.1.length:Int)=(a.1.length:Int))∧(v41=x42.2)∧(y10.1.length=x42.1.length)∧I2 x42∧μ3 x42 < μ3 y4)))))))) ((y4.1.length=y4.1.length)∧SlQ y4.1.length ((cW a).length) (gl aB y4.1) (gl aB (cW a)) (True)))
def f402.vc (a:(List (aA))×(List (Int))):Prop:=(∃ (I2:((List (aA))×Int)→Prop) (μ3:((List (aA))×Int)→Nat),I2 ([],(0:Int))∧∀ y4:(List (aA))×Int,I2 y4→((y4.2 < (a.1.length:Int)→(∃ (I8:((List (aA))×Int×Bool×Int×Int)→Prop) (μ9:((List (aA))×Int×Bool×Int×Int)→Nat),I8 (y4.1,y4.2,false,y4.2,(0:Int))∧∀ y10:(List (aA))×Int×Bool×Int×Int,I8 y10→((y10.2.2.2.2 < (a.2.length:Int)→((y10.2.2.1=true→(-9223372036854775808≤(y10.2.2.2.2+(1:Int))∧(y10.2.2.2.2+(1:Int))≤9223372036854775807∧(I8 (y10.1,y10.2.1,true,y10.2.2.2.1,(y10.2.2.2.2+(1:Int)))∧μ9 (y10.1,y10.2.1,true,y10.2.2.2.1,(y10.2.2.2.2+(1:Int))) < μ9 y10)))∧(¬(y10.2.2.1=true)→((0:Int)≤y10.2.2.2.2∧y10.2.2.2.2 < (a.2.length:Int)∧(-9223372036854775808≤(y10.2.2.2.2+(1:Int))∧(y10.2.2.2.2+(1:Int))≤9223372036854775807∧(I8 (y10.1,y10.2.1,((at_ a.2 y10.2.2.2.2)==y10.2.1),y10.2.2.2.1,(y10.2.2.2.2+(1:Int)))∧μ9 (y10.1,y10.2.1,((at_ a.2 y10.2.2.2.2)==y10.2.1),y10.2.2.2.1,(y10.2.2.2.2+(1:Int))) < μ9 y10))))))∧(¬(y10.2.2.2.2 < (a.2.length:Int))→((¬(y10.2.2.1=true)→((0:Int)≤y10.2.1∧y10.2.1 < (a.1.length:Int)∧(y10.1.length+1≤1073741824∧(-9223372036854775808≤(y10.2.2.2.1+(1:Int))∧(y10.2.2.2.1+(1:Int))≤9223372036854775807∧(I2 (y10.1++([(((at_ a.1 y10.2.1).1),(at_ a.1 y10.2.1).2.1,(at_ a.1 y10.2.1).2.2.1,(at_ a.1 y10.2.1).2.2.2)]),(y10.2.2.2.1+(1:Int)))∧μ3 (y10.1++([(((at_ a.1 y10.2.1).1),(at_ a.1 y10.2.1).2.1,(at_ a.1 y10.2.1).2.2.1,(at_ a.1 y10.2.1).2.2.2)]),(y10.2.2.2.1+(1:Int))) < μ3 y4)))))∧(¬(¬(y10.2.2.1=true))→(-9223372036854775808≤(y10.2.2.2.1+(1:Int))∧(y10.2.2.2.1+(1:Int))≤9223372036854775807∧(I2 (y10.1,(y10.2.2.2.1+(1:Int)))∧μ3 (y10.1,(y10.2.2.2.1+(1:Int))) < μ3 y4))))))))∧(¬(y4.2 < (a.1.length:Int))→(y4.1=cW a))))
set_option maxRecDepth 100000 in
set_option maxHeartbeats 2000000 in
theorem f402.of (a:(List (aA))×(List (Int))) (h:f402.vc a):f402.tree a:=Exists.elim h (fun I2 h57_=>Exists.elim h57_ (fun μ3 h57=>⟨I2,μ3,⟨([],(0:Int)),SlS.mk  (SlS.mk  (slQ (Rds.nil (enc:=aB)) (⟨rfl,⟨rfl,⟨(cI cO (Rds.nil (enc:=aB))),h57.1⟩⟩⟩)))⟩,fun y4 h59=>br (h57.2 y4 h59) Cnd.dec (fun h5 k55=>Exists.elim k55 (fun I8 h51_=>Exists.elim h51_ (fun μ9 h51=>⟨I8,μ9,⟨(y4.1,y4.2,false,y4.2,(0:Int)),SlS.mk  (SlS.mk  (slQ (Rds.self (enc:=aB)) (⟨rfl,⟨rfl,⟨rfl,⟨rfl,⟨rfl,⟨rfl,⟨(cI (gl aB y4.1) (Rds.self (enc:=aB))),h51.1⟩⟩⟩⟩⟩⟩⟩)))⟩,fun y10 h53=>br (h51.2 y10 h53) Cnd.dec (fun h11 k49=>br k49 Cnd.b (fun h13 k29=>wrapK.i64 k29 (fun h18 h19 k20=>⟨(y10.1,y10.2.1,true,y10.2.2.2.1,(y10.2.2.2.2+(1:Int))),SlS.mk  (SlS.mk  (slQ (Rds.self (enc:=aB)) (⟨rfl,⟨rfl,⟨rfl,⟨rfl,⟨rfl,⟨rfl,⟨(cI (gl aB y10.1) (Rds.self (enc:=aB))),k20⟩⟩⟩⟩⟩⟩⟩)))⟩)) (fun h14 k30=>chk k30.2.2 Cnd.ix ⟨k30.1,k30.2.1⟩ (fun h21 k28=>wrapK.i64 k28 (fun h25 h26 k27=>⟨(y10.1,y10.2.1,((at_ a.2 y10.2.2.2.2)==y10.2.1),y10.2.2.2.1,(y10.2.2.2.2+(1:Int))),SlS.mk  (SlS.mk  (slQ (Rds.self (enc:=aB)) (⟨rfl,⟨rfl,⟨rfl,⟨rfl,⟨rfl,⟨rfl,⟨(cI (gl aB y10.1) (Rds.self (enc:=aB))),k27⟩⟩⟩⟩⟩⟩⟩)))⟩)))) (fun h12 k50=>br k50 (Cnd.not Cnd.b) (fun h31 k47=>chk k47.2.2 Cnd.ix ⟨k47.1,k47.2.1⟩ (fun h33 k40=>⟨⟨rfl,(f7 k40.1 (by decide))⟩,wrapK.i64 k40.2 (fun h37 h38 k39=>⟨(y10.1++([(((at_ a.1 y10.2.1).1),(at_ a.1 y10.2.1).2.1,(at_ a.1 y10.2.1).2.2.1,(at_ a.1 y10.2.1).2.2.2)]),(y10.2.2.2.1+(1:Int))),SlS.mk  (SlS.mk  (slQ (Rds.app (enc:=aB) (Rds.self (enc:=aB)) (Rds.one (enc:=aB) (DEqs.refl _))) (⟨rfl,⟨rfl,⟨(cI (fF (gl aB y10.1) y10.1.length (fun _=>[.str (((at_ a.1 y10.2.1).1).1),.str (((at_ a.1 y10.2.1).1).2.1),.int .i64 (((at_ a.1 y10.2.1).1).2.2.1),.int .i64 ((((at_ a.1 y10.2.1).1).2.2.2.1).1),.int .i64 ((((at_ a.1 y10.2.1).1).2.2.2.1).2.1),.int .i64 ((((at_ a.1 y10.2.1).1).2.2.2.1).2.2),.slice .ro 2 ((((at_ a.1 y10.2.1).1).2.2.2.2.1).length) (gl aE (((at_ a.1 y10.2.1).1).2.2.2.2.1)),.str (((at_ a.1 y10.2.1).1).2.2.2.2.2.1),.str (((at_ a.1 y10.2.1).1).2.2.2.2.2.2.1),.int .i64 (((at_ a.1 y10.2.1).1).2.2.2.2.2.2.2),.int .i64 ((at_ a.1 y10.2.1).2.1),.str ((at_ a.1 y10.2.1).2.2.1),.int .i64 ((at_ a.1 y10.2.1).2.2.2)])) (Rds.app (enc:=aB) (Rds.self (enc:=aB)) (Rds.one (enc:=aB) (DEqs.refl _)))),k39⟩⟩⟩)))⟩)⟩)) (fun h32 k48=>wrapK.i64 k48 (fun h44 h45 k46=>⟨(y10.1,(y10.2.2.2.1+(1:Int))),SlS.mk  (SlS.mk  (slQ (Rds.self (enc:=aB)) (⟨rfl,⟨rfl,⟨(cI (gl aB y10.1) (Rds.self (enc:=aB))),k46⟩⟩⟩)))⟩)))⟩))) (fun h6 k56=>⟨rfl,slQ (Rds.to (Rds.self (enc:=aB)) k56) (trivial)⟩)⟩))
theorem f402.eq (a:(List (aA))×(List (Int))):(f402.af a).gives f402.env (f402.args a) (f402.blks a) (f402.res a) (f402.blks' a)=f402.tree a:=by kernel_rfl
end Go.Abs

-- interregnum/interregnumref13.Places
namespace Go.Abs
open Go
def f397.ent (K:(aC×(List (aA))×aF)→Prop) (t:aC×(List (aA))×aF):Prop:=∃ c:aC×(List (aA))×aF,(t.1.1.1=c.1.1.1)∧(t.1.1.2.1.1=c.1.1.2.1.1)∧(t.1.1.2.1.2.1=c.1.1.2.1.2.1)∧(t.1.1.2.1.2.2=c.1.1.2.1.2.2)∧SlQ t.1.1.2.2.length c.1.1.2.2.length (gl aE t.1.1.2.2) (gl aE c.1.1.2.2) ((t.1.2.1=c.1.2.1)∧(t.1.2.2=c.1.2.2)∧SlQ t.2.1.length c.2.1.length (gl aB t.2.1) (gl aB c.2.1) ((t.2.2.1=c.2.2.1)∧(t.2.2.2.1=c.2.2.2.1)∧(t.2.2.2.2.1=c.2.2.2.2.1)∧(t.2.2.2.2.2.1.1=c.2.2.2.2.2.1.1)∧(t.2.2.2.2.2.1.2.1=c.2.2.2.2.2.1.2.1)∧(t.2.2.2.2.2.1.2.2=c.2.2.2.2.2.1.2.2)∧SlQ t.2.2.2.2.2.2.1.length c.2.2.2.2.2.2.1.length (gl aE t.2.2.2.2.2.2.1) (gl aE c.2.2.2.2.2.2.1) ((t.2.2.2.2.2.2.2.1=c.2.2.2.2.2.2.2.1)∧(t.2.2.2.2.2.2.2.2.1=c.2.2.2.2.2.2.2.2.1)∧(t.2.2.2.2.2.2.2.2.2=c.2.2.2.2.2.2.2.2.2)∧K c)))
theorem f397.ei {K:(aC×(List (aA))×aF)→Prop} {t:aC×(List (aA))×aF} (h:K t):f397.ent K t:=⟨t,⟨rfl,⟨rfl,⟨rfl,⟨rfl,slQ (Rds.self (enc:=aE)) (⟨rfl,⟨rfl,slQ (Rds.self (enc:=aB)) (⟨rfl,⟨rfl,⟨rfl,⟨rfl,⟨rfl,⟨rfl,slQ (Rds.self (enc:=aE)) (⟨rfl,⟨rfl,⟨rfl,h⟩⟩⟩)⟩⟩⟩⟩⟩⟩)⟩⟩)⟩⟩⟩⟩⟩
def f397.args (a:aC×(List (aA))×aF):List D:=[.agg [.str a.1.1.1,.int .i64 a.1.1.2.1.1,.int .i64 a.1.1.2.1.2.1,.int .i64 a.1.1.2.1.2.2,.slice .ro 2 a.1.1.2.2.length (gl aE a.1.1.2.2),.bool a.1.2.1,.int .i64 a.1.2.2],.slice .ro 13 a.2.1.length (gl aB a.2.1),.agg [.str a.2.2.1,.str a.2.2.2.1,.int .i64 a.2.2.2.2.1,.int .i64 a.2.2.2.2.2.1.1,.int .i64 a.2.2.2.2.2.1.2.1,.int .i64 a.2.2.2.2.2.1.2.2,.slice .ro 2 a.2.2.2.2.2.2.1.length (gl aE a.2.2.2.2.2.2.1),.str a.2.2.2.2.2.2.2.1,.str a.2.2.2.2.2.2.2.2.1,.int .i64 a.2.2.2.2.2.2.2.2.2]]
def f397.blks (a:aC×(List (aA))×aF):List (List D):=[]
def f397.res (a:aC×(List (aA))×aF):List D:=[.slice .ro 1 (((aK a).1).length) (gl bC ((aK a).1)),.bool ((aK a).2)]
def f397.blks' (a:aC×(List (aA))×aF):List (List D):=[]
def f397.C:aM:=FnC f397.args f397.blks (fun a=>bY a) f397.res f397.blks'
end Go.Abs

-- interregnum/interregnumref11.Why
namespace Go.Abs
open Go
def f399.ent (K:(aC×(List (aA))×aF)→Prop) (t:aC×(List (aA))×aF):Prop:=∃ c:aC×(List (aA))×aF,(t.1.1.1=c.1.1.1)∧(t.1.1.2.1.1=c.1.1.2.1.1)∧(t.1.1.2.1.2.1=c.1.1.2.1.2.1)∧(t.1.1.2.1.2.2=c.1.1.2.1.2.2)∧SlQ t.1.1.2.2.length c.1.1.2.2.length (gl aE t.1.1.2.2) (gl aE c.1.1.2.2) ((t.1.2.1=c.1.2.1)∧(t.1.2.2=c.1.2.2)∧SlQ t.2.1.length c.2.1.length (gl aB t.2.1) (gl aB c.2.1) ((t.2.2.1=c.2.2.1)∧(t.2.2.2.1=c.2.2.2.1)∧(t.2.2.2.2.1=c.2.2.2.2.1)∧(t.2.2.2.2.2.1.1=c.2.2.2.2.2.1.1)∧(t.2.2.2.2.2.1.2.1=c.2.2.2.2.2.1.2.1)∧(t.2.2.2.2.2.1.2.2=c.2.2.2.2.2.1.2.2)∧SlQ t.2.2.2.2.2.2.1.length c.2.2.2.2.2.2.1.length (gl aE t.2.2.2.2.2.2.1) (gl aE c.2.2.2.2.2.2.1) ((t.2.2.2.2.2.2.2.1=c.2.2.2.2.2.2.2.1)∧(t.2.2.2.2.2.2.2.2.1=c.2.2.2.2.2.2.2.2.1)∧(t.2.2.2.2.2.2.2.2.2=c.2.2.2.2.2.2.2.2.2)∧K c)))
theorem f399.ei {K:(aC×(List (aA))×aF)→Prop} {t:aC×(List (aA))×aF} (h:K t):f399.ent K t:=⟨t,⟨rfl,⟨rfl,⟨rfl,⟨rfl,slQ (Rds.self (enc:=aE)) (⟨rfl,⟨rfl,slQ (Rds.self (enc:=aB)) (⟨rfl,⟨rfl,⟨rfl,⟨rfl,⟨rfl,⟨rfl,slQ (Rds.self (enc:=aE)) (⟨rfl,⟨rfl,⟨rfl,h⟩⟩⟩)⟩⟩⟩⟩⟩⟩)⟩⟩)⟩⟩⟩⟩⟩
def f399.args (a:aC×(List (aA))×aF):List D:=[.agg [.str a.1.1.1,.int .i64 a.1.1.2.1.1,.int .i64 a.1.1.2.1.2.1,.int .i64 a.1.1.2.1.2.2,.slice .ro 2 a.1.1.2.2.length (gl aE a.1.1.2.2),.bool a.1.2.1,.int .i64 a.1.2.2],.slice .ro 13 a.2.1.length (gl aB a.2.1),.agg [.str a.2.2.1,.str a.2.2.2.1,.int .i64 a.2.2.2.2.1,.int .i64 a.2.2.2.2.2.1.1,.int .i64 a.2.2.2.2.2.1.2.1,.int .i64 a.2.2.2.2.2.1.2.2,.slice .ro 2 a.2.2.2.2.2.2.1.length (gl aE a.2.2.2.2.2.2.1),.str a.2.2.2.2.2.2.2.1,.str a.2.2.2.2.2.2.2.2.1,.int .i64 a.2.2.2.2.2.2.2.2.2]]
def f399.blks (a:aC×(List (aA))×aF):List (List D):=[]
def f399.res (a:aC×(List (aA))×aF):List D:=[.int .i64 (dS a)]
def f399.blks' (a:aC×(List (aA))×aF):List (List D):=[]
def f399.C:aM:=FnC f399.args f399.blks (fun a=>bY a) f399.res f399.blks'
end Go.Abs

/- interregnum/interregnumref13.Places -/
namespace Go.Abs
open Go
set_option linter.unusedVariables false
def f397.S0 (a:aC×(List (aA))×aF) (x:(List (Int))×Int):Tm:=⟨[.dead,.slice .ro 13 a.2.1.length (gl aB a.2.1),.dead,.ptr 0 0,.dead,.ptr 1 0,.dead,.dead,.dead,.slice .ro 1 x.1.length (gl bC x.1),.int .i64 x.2,.dead,.dead,.dead,.dead,.dead,.dead,.dead,.dead,.dead,.dead,.dead,.dead,.dead,.dead,.dead,.dead,.dead,.dead,.dead,.dead,.dead,.dead,.dead,.dead,.dead,.dead,.dead,.dead,.dead,.dead,.dead,.dead,.dead,.dead,.dead,.dead,.dead,.dead,.dead,.dead,.dead],[(0,false,[.str a.1.1.1,.int .i64 a.1.1.2.1.1,.int .i64 a.1.1.2.1.2.1,.int .i64 a.1.1.2.1.2.2,.slice .ro 2 a.1.1.2.2.length (gl aE a.1.1.2.2),.bool a.1.2.1,.int .i64 a.1.2.2]),(1,false,[.str a.2.2.1,.str a.2.2.2.1,.int .i64 a.2.2.2.2.1,.int .i64 a.2.2.2.2.2.1.1,.int .i64 a.2.2.2.2.2.1.2.1,.int .i64 a.2.2.2.2.2.1.2.2,.slice .ro 2 a.2.2.2.2.2.2.1.length (gl aE a.2.2.2.2.2.2.1),.str a.2.2.2.2.2.2.2.1,.str a.2.2.2.2.2.2.2.2.1,.int .i64 a.2.2.2.2.2.2.2.2.2])],[]⟩
def f397.l0 (a:aC×(List (aA))×aF) (K:((List (Int))×Int)→Prop) (t:(List (Int))×Int):Prop:=∃ x:(List (Int))×Int,SlS aB a.2.1 (SlQ t.1.length x.1.length (gl bC t.1) (gl bC x.1) ((t.2=x.2)∧(a.1.1.1=a.1.1.1)∧(a.1.1.2.1.1=a.1.1.2.1.1)∧(a.1.1.2.1.2.1=a.1.1.2.1.2.1)∧(a.1.1.2.1.2.2=a.1.1.2.1.2.2)∧SlS aE a.1.1.2.2 ((a.1.2.1=a.1.2.1)∧(a.1.2.2=a.1.2.2)∧(a.2.2.1=a.2.2.1)∧(a.2.2.2.1=a.2.2.2.1)∧(a.2.2.2.2.1=a.2.2.2.2.1)∧(a.2.2.2.2.2.1.1=a.2.2.2.2.2.1.1)∧(a.2.2.2.2.2.1.2.1=a.2.2.2.2.2.1.2.1)∧(a.2.2.2.2.2.1.2.2=a.2.2.2.2.2.1.2.2)∧SlS aE a.2.2.2.2.2.2.1 ((a.2.2.2.2.2.2.2.1=a.2.2.2.2.2.2.2.1)∧(a.2.2.2.2.2.2.2.2.1=a.2.2.2.2.2.2.2.2.1)∧(a.2.2.2.2.2.2.2.2.2=a.2.2.2.2.2.2.2.2.2)∧K x))))
theorem f397.l0i (a:aC×(List (aA))×aF) {K:((List (Int))×Int)→Prop} {t:(List (Int))×Int} (h:K t):f397.l0 a K t:=⟨t,SlS.mk  (slQ (Rds.self (enc:=bC)) (⟨rfl,⟨rfl,⟨rfl,⟨rfl,⟨rfl,SlS.mk  (⟨rfl,⟨rfl,⟨rfl,⟨rfl,⟨rfl,⟨rfl,⟨rfl,⟨rfl,SlS.mk  (⟨rfl,⟨rfl,⟨rfl,h⟩⟩⟩)⟩⟩⟩⟩⟩⟩⟩⟩)⟩⟩⟩⟩⟩))⟩
def f397.kills (a:aC×(List (aA))×aF):List cB:=[.tell ((List (Int))×Int) (f397.S0 a)]
def f397.cuts (a:aC×(List (aA))×aF):List (Nat×Σ β:Type,β→Tm):=[]
def f397.af (a:aC×(List (aA))×aF):AF:=AF.mk (.seq (.region [oT 3 0 .box [0],
 oT 5 1 .box [2],
 oT 6 2 (.nilSl 1) [],
 ⟨(some 7),3,.move,[.c (.bool false)],none⟩])
 (.seq (.region [oT 13 4 (.load true 7) [3],
 oT 14 5 .move [1],
 oT 15 6 (.load true 10) [5],
 oT 16 7 (.call false 399) [13,14,15],
 oT 8 11 .move [16]])
 (.seq (.seq (.region [oT 17 12 .move [8],
 ⟨(some 18),13,(.bin .eql),[.t 17,.c (.int .i64 (0))],none⟩])
 (.cond (.t 18) (.seq (.region [oT 6 14 (.nilSl 1) [],
 ⟨(some 7),15,.move,[.c (.bool true)],none⟩])
 (.ret)) (.skip)))
 (.seq (.seq (.region [oT 19 16 .move [8],
 ⟨(some 20),17,(.bin .neq),[.t 19,.c (.int .i64 (4))],none⟩])
 (.cond (.t 20) (.seq (.region [oT 6 18 (.nilSl 1) [],
 ⟨(some 7),19,.move,[.c (.bool false)],none⟩])
 (.ret)) (.skip)))
 (.seq (.region [oT 21 20 (.load true 7) [3],
 oT 22 21 .move [1],
 oT 23 22 (.load true 10) [5],
 oT 24 23 (.call false 401) [21,22,23],
 oT 9 27 .move [24]])
 (.seq (.seq (.region [⟨(some 10),28,.move,[.c (.int .i64 (1))],none⟩])
 (.block 0 (.loopT ((List (Int))×Int) (f397.S0 a) 29 74 (.seq (.seq (.region [oT 25 29 .move [10],
 oT 26 30 .move [9],
 oT 27 31 (.len false) [26],
 oT 28 32 (.bin .leq) [25,27]])
 (.cond (.t 28) (.skip) (.exit 0)))
 (.seq (.block 1 (.seq (.region [oT 32 33 (.load true 7) [3],
 oT 33 34 .move [1],
 oT 34 35 .move [9],
 oT 35 36 .move [10],
 oT 36 37 (.sliceSl 1 false true false) [34,35],
 oT 37 38 (.call false 402) [33,36],
 oT 38 42 (.call false 365) [32,37],
 oT 31 46 .move [38],
 oT 39 47 (.extract 0) [31],
 oT 40 48 (.extract 1) [31],
 oT 11 49 (.alloc [.int .i64 (0),.int .i64 (0),.int .i64 (0)]) [],
 ⟨none,53,(.store 3),[.t 11,.t 39],none⟩,
 oT 12 54 .move [40]])
 (.seq (.region [oT 41 55 .move [12],
 ⟨(some 42),56,(.bin .eql),[.t 41,.c (.int .i64 (0))],none⟩,
 oT 43 57 .move [42],
 oG 44 58 (.fieldAddr 3) [5] 43 true,
 oG 45 59 (.load true 3) [44] 43 true,
 oG 46 60 (.load true 3) [11] 43 true,
 oG 47 61 (.call false 131) [45,46] 43 true,
 ⟨(some 48),65,.pick,[.t 43,.t 47,.c (.bool false)],none⟩])
 (.cond (.t 48) (.seq (.region [oT 49 66 .move [9],
 oT 50 67 .move [10],
 oT 51 68 (.sliceSl 1 false true false) [49,50],
 oT 6 69 .move [51],
 ⟨(some 7),70,.move,[.c (.bool true)],none⟩])
 (.ret)) (.skip)))))
 (.region [oT 29 71 .move [10],
 ⟨(some 30),72,(.bin .add),[.t 29,.c (.int .i64 (1))],none⟩,
 oT 10 73 .move [30]]))))))
 (.seq (.region [oT 6 74 (.nilSl 1) [],
 ⟨(some 7),75,.move,[.c (.bool false)],none⟩])
 (.ret))))))))
 [.tmp 6,.tmp 7] 0 49
def f397.env:Env:=[(399,f399.C),(401,f401.C),(402,f402.C),(365,f365.C),(131,f131.C)]
def f397.tree (a:aC×(List (aA))×aF):Prop:=f399.ent (fun c1=>(bY c1)∧Br ((dS c1)==(0:Int)) ((0=0)∧SlQ 0 (((aK a).1).length) cO (gl bC ((aK a).1)) ((true=((aK a).2))∧True)) (Br ((dS c1) != (4:Int)) ((0=0)∧SlQ 0 (((aK a).1).length) cO (gl bC ((aK a).1)) ((false=((aK a).2))∧True)) (f401.ent (fun c8=>(i7 c8)∧∃ (I10:((List (Int))×Int)→Prop) (μ11:((List (Int))×Int)→Nat),(f397.l0 a I10 ((fW c8),(1:Int)))∧∀ y12:(List (Int))×Int,I10 y12→(Br (decide (y12.2≤(y12.1.length:Int))) (Br (decide ((0:Int)≤(0:Int))&&decide ((0:Int)≤y12.2)&&decide (y12.2≤(y12.1.length:Int))&&(y12.2==y12.2)) (∃ c16:(List (aA))×(List (Int)),SlQ a.2.1.length c16.1.length (gl aB a.2.1) (gl aB c16.1) (SlQ (Int.toNat (y12.2 - (0:Int))) c16.2.length (tL (gl bC y12.1) 0) (gl bC c16.2) ((jI c16)∧f365.ent (fun c17=>(fK c17)∧Br (((aX c17).2)==(0:Int)) (f131.ent (fun c20=>True∧Br (cT c20) (Br (decide ((0:Int)≤(0:Int))&&decide ((0:Int)≤y12.2)&&decide (y12.2≤(y12.1.length:Int))&&(y12.2==y12.2)) (SlQ (Int.toNat (y12.2 - (0:Int))) (((aK a).1).length) (tL (gl bC y12.1) 0) (gl bC ((aK a).1)) ((true=((aK a).2))∧True)) False) (Let (IntKind.i64.wrap (y12.2+(1:Int))) (fun v26:Int=>f397.l0 a (Dn I10 μ11 y12) (y12.1,v26)))) (a.2.2.2.2.2.1,((aX c17).1))) (Let (IntKind.i64.wrap (y12.2+(1:Int))) (fun v35:Int=>f397.l0 a (Dn I10 μ11 y12) (y12.1,v35)))) (a.1,(cW c16))))) False) ((0=0)∧SlQ 0 (((aK a).1).length) cO (gl bC ((aK a).1)) ((false=((aK a).2))∧True)))) (a.1,a.2.1,a.2.2)))) (a.1,a.2.1,a.2.2)
def f397.vc (a:aC×(List (aA))×aF):Prop:=(bY (a.1,a.2.1,a.2.2)∧(((dS (a.1,a.2.1,a.2.2))=(0:Int)→(([],true)=aK a))∧(¬((dS (a.1,a.2.1,a.2.2))=(0:Int))→((¬(dS (a.1,a.2.1,a.2.2))=(4:Int)→(([],false)=aK a))∧(¬(¬(dS (a.1,a.2.1,a.2.2))=(4:Int))→(i7 (a.1,a.2.1,a.2.2)∧(∃ (I10:((List (Int))×Int)→Prop) (μ11:((List (Int))×Int)→Nat),I10 ((fW (a.1,a.2.1,a.2.2)),(1:Int))∧∀ y12:(List (Int))×Int,I10 y12→((y12.2≤(y12.1.length:Int)→((0:Int)≤y12.2∧y12.2≤(y12.1.length:Int)∧(jI (a.2.1,(gK y12.1 (0:Int) y12.2))∧(fK (a.1,(cW (a.2.1,(gK y12.1 (0:Int) y12.2))))∧((((aX (a.1,(cW (a.2.1,(gK y12.1 (0:Int) y12.2))))).2)=(0:Int)→(((cT (a.2.2.2.2.2.1,((aX (a.1,(cW (a.2.1,(gK y12.1 (0:Int) y12.2))))).1)))=true→((0:Int)≤y12.2∧y12.2≤(y12.1.length:Int)∧(((gK y12.1 (0:Int) y12.2),true)=aK a)))∧(¬((cT (a.2.2.2.2.2.1,((aX (a.1,(cW (a.2.1,(gK y12.1 (0:Int) y12.2))))).1)))=true)→(-9223372036854775808≤(y12.2+(1:Int))∧(y12.2+(1:Int))≤9223372036854775807∧(I10 (y12.1,(y12.2+(1:Int)))∧μ11 (y12.1,(y12.2+(1:Int))) < μ11 y12)))))∧(¬(((aX (a.1,(cW (a.2.1,(gK y12.1 (0:Int) y12.2))))).2)=(0:Int))→(-9223372036854775808≤(y12.2+(1:Int))∧(y12.2+(1:Int))≤9223372036854775807∧(I10 (y12.1,(y12.2+(1:Int)))∧μ11 (y12.1,(y12.2+(1:Int))) < μ11 y12))))))))∧(¬(y12.2≤(y12.1.length:Int))→(([],false)=aK a))))))))))
set_option maxRecDepth 100000 in
set_option maxHeartbeats 2000000 in
theorem f397.of (a:aC×(List (aA))×aF) (h:f397.vc a):f397.tree a:=(f399.ei ⟨h.1,br h.2 Cnd.eq (fun h2 k55=>⟨rfl,slQ (Rds.to (Rds.nil (enc:=bC)) (congrArg (fun x:(List (Int))×Bool=>x.1) k55 :)) (⟨(congrArg (fun x:(List (Int))×Bool=>x.2) k55 :),trivial⟩)⟩) (fun h3 k56=>br k56 Cnd.ne (fun h5 k53=>⟨rfl,slQ (Rds.to (Rds.nil (enc:=bC)) (congrArg (fun x:(List (Int))×Bool=>x.1) k53 :)) (⟨(congrArg (fun x:(List (Int))×Bool=>x.2) k53 :),trivial⟩)⟩) (fun h6 k54=>(f401.ei ⟨k54.1,Exists.elim k54.2 (fun I10 h49_=>Exists.elim h49_ (fun μ11 h49=>⟨I10,μ11,(f397.l0i a h49.1),fun y12 h51=>br (h49.2 y12 h51) Cnd.dec (fun h13 k47=>chk k47.2.2 Cnd.sl ⟨(by decide),k47.1,k47.2.1⟩ (fun h15 k45=>⟨(a.2.1,(gK y12.1 (0:Int) y12.2)),slQ (Rds.self (enc:=aB)) (slQ (Rds.sub (enc:=bC) (Rds.self (enc:=bC)) h15) (⟨k45.1,(f365.ei ⟨k45.2.1,br k45.2.2 Cnd.eq (fun h18 k41=>(f131.ei ⟨trivial,br k41 Cnd.b (fun h21 k32=>chk k32.2.2 Cnd.sl ⟨(by decide),k32.1,k32.2.1⟩ (fun h23 k25=>slQ (Rds.to (Rds.sub (enc:=bC) (Rds.self (enc:=bC)) h23) (congrArg (fun x:(List (Int))×Bool=>x.1) k25 :)) (⟨(congrArg (fun x:(List (Int))×Bool=>x.2) k25 :),trivial⟩))) (fun h22 k33=>wrapK.i64 k33 (fun h29 h30 k31=>(f397.l0i a k31)))⟩)) (fun h19 k42=>wrapK.i64 k42 (fun h38 h39 k40=>(f397.l0i a k40)))⟩)⟩))⟩)) (fun h14 k48=>⟨rfl,slQ (Rds.to (Rds.nil (enc:=bC)) (congrArg (fun x:(List (Int))×Bool=>x.1) k48 :)) (⟨(congrArg (fun x:(List (Int))×Bool=>x.2) k48 :),trivial⟩)⟩)⟩))⟩)))⟩)
theorem f397.eq (a:aC×(List (aA))×aF):(f397.af a).gives f397.env (f397.args a) (f397.blks a) (f397.res a) (f397.blks' a)=f397.tree a:=by kernel_rfl
end Go.Abs

-- interregnum/interregnumref13.names
namespace Go.Abs
open Go
def f398.ent (K:((List (aA))×(List (Int)))→Prop) (t:(List (aA))×(List (Int))):Prop:=∃ c:(List (aA))×(List (Int)),SlQ t.1.length c.1.length (gl aB t.1) (gl aB c.1) (SlQ t.2.length c.2.length (gl bC t.2) (gl bC c.2) (K c))
theorem f398.ei {K:((List (aA))×(List (Int)))→Prop} {t:(List (aA))×(List (Int))} (h:K t):f398.ent K t:=⟨t,slQ (Rds.self (enc:=aB)) (slQ (Rds.self (enc:=bC)) (h))⟩
def f398.args (a:(List (aA))×(List (Int))):List D:=[.slice .ro 13 a.1.length (gl aB a.1),.slice .ro 1 a.2.length (gl bC a.2)]
def f398.blks (a:(List (aA))×(List (Int))):List (List D):=[]
def f398.res (a:(List (aA))×(List (Int))):List D:=[.slice .ro 1 ((jB a).length) (gl bN (jB a))]
def f398.blks' (a:(List (aA))×(List (Int))):List (List D):=[]
def f398.C:aM:=FnC f398.args f398.blks (fun a=>l9 a) f398.res f398.blks'
end Go.Abs

/- interregnum/interregnumref13.names -/
namespace Go.Abs
open Go
set_option linter.unusedVariables false
def f398.S0 (a:(List (aA))×(List (Int))) (x:(List (ByteArray))×Int):Tm:=⟨[.slice .ro 13 a.1.length (gl aB a.1),.slice .ro 1 a.2.length (gl bC a.2),.dead,.dead,.dead,.slice (.own 1) 1 x.1.length (gl bN x.1),.dead,.dead,.int .i64 (a.2.length:Int),.int .i64 x.2,.dead,.dead,.dead,.dead,.dead,.dead,.dead,.dead,.dead,.dead,.dead,.dead,.dead,.dead,.dead,.dead],[],[(1,1,x.1.length)]⟩
def f398.kills (a:(List (aA))×(List (Int))):List cB:=[.tell ((List (ByteArray))×Int) (f398.S0 a)]
def f398.cuts (a:(List (aA))×(List (Int))):List (Nat×Σ β:Type,β→Tm):=[]
def f398.af (a:(List (aA))×(List (Int))):AF:=AF.mk (.seq (.region [oT 4 0 (.nilSl 1) []])
 (.seq (.region [oT 5 1 (.nilSl 1) []])
 (.seq (.seq (.region [oT 7 2 .move [1],
 oT 8 3 (.len false) [7],
 ⟨(some 9),4,.move,[.c (.int .i64 (0))],none⟩])
 (.block 0 (.loopT ((List (ByteArray))×Int) (f398.S0 a) 5 23 (.seq (.region [oT 10 5 (.bin .lss) [9,8]])
 (.seq (.cond (.t 10) (.skip) (.exit 0))
 (.seq (.block 1 (.seq (.region [oT 11 6 .move [9],
 oT 6 7 .move [11]])
 (.region [oT 12 8 .move [5],
 oT 13 9 .move [0],
 oT 14 10 .move [1],
 oT 15 11 .move [6],
 oT 16 12 (.indexAddr 1 none) [14,15],
 oT 17 13 (.load false 1) [16],
 oT 18 14 (.indexAddr 13 none) [13,17],
 oT 19 15 (.fieldAddr 0) [18],
 oT 20 16 (.fieldAddr 0) [19],
 oT 21 17 (.load false 1) [20],
 oT 22 18 (.buildSlice 1 1 [.str ByteArray.empty] [(0,1)]) [21],
 oT 23 19 (.append 1 16) [12,22],
 oT 5 20 .move [23]])))
 (.region [⟨(some 24),21,(.bin .add),[.t 9,.c (.int .i64 (1))],none⟩,
 oT 9 22 .move [24]])))))))
 (.seq (.region [oT 25 23 .move [5],
 oT 4 24 .move [25]])
 (.ret)))))
 [.tmp 4] 0 24
def f398.env:Env:=[]
def f398.tree (a:(List (aA))×(List (Int))):Prop:=∃ (I2:((List (ByteArray))×Int)→Prop) (μ3:((List (ByteArray))×Int)→Nat),(∃ x1:(List (ByteArray))×Int,SlS aB a.1 (SlS bC a.2 (SlQ 0 x1.1.length cO (gl bN x1.1) (((a.2.length:Int)=(a.2.length:Int))∧((0:Int)=x1.2)∧(0=x1.1.length)∧I2 x1))))∧∀ y4:(List (ByteArray))×Int,I2 y4→(Br (decide (y4.2 < (a.2.length:Int))) (Br (decide ((0:Int)≤y4.2)&&decide (y4.2 < (a.2.length:Int))) (Br (decide ((0:Int)≤(at_ a.2 y4.2))&&decide ((at_ a.2 y4.2) < (a.1.length:Int))) ((y4.1.length=y4.1.length∧k6 ((y4.1.length+1) * 16))∧(Let (IntKind.i64.wrap (y4.2+(1:Int))) (fun v9:Int=>∃ x10:(List (ByteArray))×Int,SlS aB a.1 (SlS bC a.2 (SlQ (y4.1.length+1) x10.1.length (fF (gl bN y4.1) y4.1.length (fun _=>[.str (((at_ a.1 (at_ a.2 y4.2)).1).1)])) (gl bN x10.1) (((a.2.length:Int)=(a.2.length:Int))∧(v9=x10.2)∧((y4.1.length+1)=x10.1.length)∧I2 x10∧μ3 x10 < μ3 y4)))))) False) False) ((y4.1.length=y4.1.length)∧SlQ y4.1.length ((jB a).length) (gl bN y4.1) (gl bN (jB a)) (True)))
def f398.vc (a:(List (aA))×(List (Int))):Prop:=(∃ (I2:((List (ByteArray))×Int)→Prop) (μ3:((List (ByteArray))×Int)→Nat),I2 ([],(0:Int))∧∀ y4:(List (ByteArray))×Int,I2 y4→((y4.2 < (a.2.length:Int)→((0:Int)≤y4.2∧y4.2 < (a.2.length:Int)∧((0:Int)≤(at_ a.2 y4.2)∧(at_ a.2 y4.2) < (a.1.length:Int)∧(y4.1.length+1≤1073741824∧(-9223372036854775808≤(y4.2+(1:Int))∧(y4.2+(1:Int))≤9223372036854775807∧(I2 (y4.1++([((at_ a.1 (at_ a.2 y4.2)).1).1]),(y4.2+(1:Int)))∧μ3 (y4.1++([((at_ a.1 (at_ a.2 y4.2)).1).1]),(y4.2+(1:Int))) < μ3 y4))))))∧(¬(y4.2 < (a.2.length:Int))→(y4.1=jB a))))
set_option maxRecDepth 100000 in
set_option maxHeartbeats 2000000 in
theorem f398.of (a:(List (aA))×(List (Int))) (h:f398.vc a):f398.tree a:=Exists.elim h (fun I2 h20_=>Exists.elim h20_ (fun μ3 h20=>⟨I2,μ3,⟨([],(0:Int)),SlS.mk  (SlS.mk  (slQ (Rds.nil (enc:=bN)) (⟨rfl,⟨rfl,⟨(cI cO (Rds.nil (enc:=bN))),h20.1⟩⟩⟩)))⟩,fun y4 h22=>br (h20.2 y4 h22) Cnd.dec (fun h5 k18=>chk k18.2.2 Cnd.ix ⟨k18.1,k18.2.1⟩ (fun h7 k16=>chk k16.2.2 Cnd.ix ⟨k16.1,k16.2.1⟩ (fun h8 k15=>⟨⟨rfl,(f7 k15.1 (by decide))⟩,wrapK.i64 k15.2 (fun h12 h13 k14=>⟨(y4.1++([((at_ a.1 (at_ a.2 y4.2)).1).1]),(y4.2+(1:Int))),SlS.mk  (SlS.mk  (slQ (Rds.app (enc:=bN) (Rds.self (enc:=bN)) (Rds.one (enc:=bN) (DEqs.refl _))) (⟨rfl,⟨rfl,⟨(cI (fF (gl bN y4.1) y4.1.length (fun _=>[.str (((at_ a.1 (at_ a.2 y4.2)).1).1)])) (Rds.app (enc:=bN) (Rds.self (enc:=bN)) (Rds.one (enc:=bN) (DEqs.refl _)))),k14⟩⟩⟩)))⟩)⟩))) (fun h6 k19=>⟨rfl,slQ (Rds.to (Rds.self (enc:=bN)) k19) (trivial)⟩)⟩))
theorem f398.eq (a:(List (aA))×(List (Int))):(f398.af a).gives f398.env (f398.args a) (f398.blks a) (f398.res a) (f398.blks' a)=f398.tree a:=by kernel_rfl
end Go.Abs

-- interregnum/interregnumref13.Plan
namespace Go.Abs
open Go
def f388.ent (K:(aC×(List (aA))×aF)→Prop) (t:aC×(List (aA))×aF):Prop:=∃ c:aC×(List (aA))×aF,(t.1.1.1=c.1.1.1)∧(t.1.1.2.1.1=c.1.1.2.1.1)∧(t.1.1.2.1.2.1=c.1.1.2.1.2.1)∧(t.1.1.2.1.2.2=c.1.1.2.1.2.2)∧SlQ t.1.1.2.2.length c.1.1.2.2.length (gl aE t.1.1.2.2) (gl aE c.1.1.2.2) ((t.1.2.1=c.1.2.1)∧(t.1.2.2=c.1.2.2)∧SlQ t.2.1.length c.2.1.length (gl aB t.2.1) (gl aB c.2.1) ((t.2.2.1=c.2.2.1)∧(t.2.2.2.1=c.2.2.2.1)∧(t.2.2.2.2.1=c.2.2.2.2.1)∧(t.2.2.2.2.2.1.1=c.2.2.2.2.2.1.1)∧(t.2.2.2.2.2.1.2.1=c.2.2.2.2.2.1.2.1)∧(t.2.2.2.2.2.1.2.2=c.2.2.2.2.2.1.2.2)∧SlQ t.2.2.2.2.2.2.1.length c.2.2.2.2.2.2.1.length (gl aE t.2.2.2.2.2.2.1) (gl aE c.2.2.2.2.2.2.1) ((t.2.2.2.2.2.2.2.1=c.2.2.2.2.2.2.2.1)∧(t.2.2.2.2.2.2.2.2.1=c.2.2.2.2.2.2.2.2.1)∧(t.2.2.2.2.2.2.2.2.2=c.2.2.2.2.2.2.2.2.2)∧K c)))
theorem f388.ei {K:(aC×(List (aA))×aF)→Prop} {t:aC×(List (aA))×aF} (h:K t):f388.ent K t:=⟨t,⟨rfl,⟨rfl,⟨rfl,⟨rfl,slQ (Rds.self (enc:=aE)) (⟨rfl,⟨rfl,slQ (Rds.self (enc:=aB)) (⟨rfl,⟨rfl,⟨rfl,⟨rfl,⟨rfl,⟨rfl,slQ (Rds.self (enc:=aE)) (⟨rfl,⟨rfl,⟨rfl,h⟩⟩⟩)⟩⟩⟩⟩⟩⟩)⟩⟩)⟩⟩⟩⟩⟩
def f388.args (a:aC×(List (aA))×aF):List D:=[.agg [.str a.1.1.1,.int .i64 a.1.1.2.1.1,.int .i64 a.1.1.2.1.2.1,.int .i64 a.1.1.2.1.2.2,.slice .ro 2 a.1.1.2.2.length (gl aE a.1.1.2.2),.bool a.1.2.1,.int .i64 a.1.2.2],.slice .ro 13 a.2.1.length (gl aB a.2.1),.agg [.str a.2.2.1,.str a.2.2.2.1,.int .i64 a.2.2.2.2.1,.int .i64 a.2.2.2.2.2.1.1,.int .i64 a.2.2.2.2.2.1.2.1,.int .i64 a.2.2.2.2.2.1.2.2,.slice .ro 2 a.2.2.2.2.2.2.1.length (gl aE a.2.2.2.2.2.2.1),.str a.2.2.2.2.2.2.2.1,.str a.2.2.2.2.2.2.2.2.1,.int .i64 a.2.2.2.2.2.2.2.2.2]]
def f388.blks (a:aC×(List (aA))×aF):List (List D):=[]
def f388.res (a:aC×(List (aA))×aF):List D:=[.slice .ro 1 (((cN a).1).length) (gl bN ((cN a).1)),.bool ((cN a).2)]
def f388.blks' (a:aC×(List (aA))×aF):List (List D):=[]
def f388.C:aM:=FnC f388.args f388.blks (fun a=>bY a) f388.res f388.blks'
end Go.Abs

/- interregnum/interregnumref13.Plan -/
namespace Go.Abs
open Go
set_option linter.unusedVariables false
def f388.kills (a:aC×(List (aA))×aF):List cB:=[]
def f388.cuts (a:aC×(List (aA))×aF):List (Nat×Σ β:Type,β→Tm):=[]
def f388.af (a:aC×(List (aA))×aF):AF:=AF.mk (.seq (.region [oT 3 0 .box [0],
 oT 5 1 .box [2],
 oT 6 2 (.nilSl 1) [],
 ⟨(some 7),3,.move,[.c (.bool false)],none⟩])
 (.seq (.region [oT 11 4 (.load true 7) [3],
 oT 12 5 .move [1],
 oT 13 6 (.load true 10) [5],
 oT 14 7 (.call false 397) [11,12,13],
 oT 10 11 .move [14],
 oT 15 12 (.extract 0) [10],
 oT 16 13 (.extract 1) [10],
 oT 8 14 .move [15],
 oT 9 15 .move [16]])
 (.seq (.region [oT 17 16 .move [1],
 oT 18 17 .move [8],
 oT 19 18 (.call false 398) [17,18],
 oT 20 22 .move [9],
 oT 6 23 .move [19],
 oT 7 24 .move [20]])
 (.ret))))
 [.tmp 6,.tmp 7] 0 18
def f388.env:Env:=[(397,f397.C),(398,f398.C)]
def f388.tree (a:aC×(List (aA))×aF):Prop:=f397.ent (fun c1=>(bY c1)∧f398.ent (fun c2=>(l9 c2)∧SlQ ((jB c2).length) (((cN a).1).length) (gl bN (jB c2)) (gl bN ((cN a).1)) ((((aK c1).2)=((cN a).2))∧True)) (a.2.1,(aK c1).1)) (a.1,a.2.1,a.2.2)
def f388.vc (a:aC×(List (aA))×aF):Prop:=(bY (a.1,a.2.1,a.2.2)∧(l9 (a.2.1,(aK (a.1,a.2.1,a.2.2)).1)∧(((jB (a.2.1,(aK (a.1,a.2.1,a.2.2)).1)),(aK (a.1,a.2.1,a.2.2)).2)=cN a)))
set_option maxRecDepth 100000 in
set_option maxHeartbeats 2000000 in
theorem f388.of (a:aC×(List (aA))×aF) (h:f388.vc a):f388.tree a:=(f397.ei ⟨h.1,(f398.ei ⟨h.2.1,slQ (Rds.to (Rds.self (enc:=bN)) (congrArg (fun x:(List (ByteArray))×Bool=>x.1) h.2.2 :)) (⟨(congrArg (fun x:(List (ByteArray))×Bool=>x.2) h.2.2 :),trivial⟩)⟩)⟩)
theorem f388.eq (a:aC×(List (aA))×aF):(f388.af a).gives f388.env (f388.args a) (f388.blks a) (f388.res a) (f388.blks' a)=f388.tree a:=by kernel_rfl
end Go.Abs

-- interregnum/interregnumref13.Choose
namespace Go.Abs
open Go
def f389.ent (K:((List (aC))×(List (aA))×aF)→Prop) (t:(List (aC))×(List (aA))×aF):Prop:=∃ c:(List (aC))×(List (aA))×aF,SlQ t.1.length c.1.length (gl a6 t.1) (gl a6 c.1) (SlQ t.2.1.length c.2.1.length (gl aB t.2.1) (gl aB c.2.1) ((t.2.2.1=c.2.2.1)∧(t.2.2.2.1=c.2.2.2.1)∧(t.2.2.2.2.1=c.2.2.2.2.1)∧(t.2.2.2.2.2.1.1=c.2.2.2.2.2.1.1)∧(t.2.2.2.2.2.1.2.1=c.2.2.2.2.2.1.2.1)∧(t.2.2.2.2.2.1.2.2=c.2.2.2.2.2.1.2.2)∧SlQ t.2.2.2.2.2.2.1.length c.2.2.2.2.2.2.1.length (gl aE t.2.2.2.2.2.2.1) (gl aE c.2.2.2.2.2.2.1) ((t.2.2.2.2.2.2.2.1=c.2.2.2.2.2.2.2.1)∧(t.2.2.2.2.2.2.2.2.1=c.2.2.2.2.2.2.2.2.1)∧(t.2.2.2.2.2.2.2.2.2=c.2.2.2.2.2.2.2.2.2)∧K c)))
theorem f389.ei {K:((List (aC))×(List (aA))×aF)→Prop} {t:(List (aC))×(List (aA))×aF} (h:K t):f389.ent K t:=⟨t,slQ (Rds.self (enc:=a6)) (slQ (Rds.self (enc:=aB)) (⟨rfl,⟨rfl,⟨rfl,⟨rfl,⟨rfl,⟨rfl,slQ (Rds.self (enc:=aE)) (⟨rfl,⟨rfl,⟨rfl,h⟩⟩⟩)⟩⟩⟩⟩⟩⟩))⟩
def f389.args (a:(List (aC))×(List (aA))×aF):List D:=[.slice .ro 7 a.1.length (gl a6 a.1),.slice .ro 13 a.2.1.length (gl aB a.2.1),.agg [.str a.2.2.1,.str a.2.2.2.1,.int .i64 a.2.2.2.2.1,.int .i64 a.2.2.2.2.2.1.1,.int .i64 a.2.2.2.2.2.1.2.1,.int .i64 a.2.2.2.2.2.1.2.2,.slice .ro 2 a.2.2.2.2.2.2.1.length (gl aE a.2.2.2.2.2.2.1),.str a.2.2.2.2.2.2.2.1,.str a.2.2.2.2.2.2.2.2.1,.int .i64 a.2.2.2.2.2.2.2.2.2]]
def f389.blks (a:(List (aC))×(List (aA))×aF):List (List D):=[]
def f389.res (a:(List (aC))×(List (aA))×aF):List D:=[.str ((bA a).1),.slice .ro 1 (((bA a).2.1).length) (gl bN ((bA a).2.1)),.bool ((bA a).2.2)]
def f389.blks' (a:(List (aC))×(List (aA))×aF):List (List D):=[]
def f389.C:aM:=FnC f389.args f389.blks (fun a=>fD a) f389.res f389.blks'
end Go.Abs

/- interregnum/interregnumref13.Choose -/
namespace Go.Abs
open Go
set_option linter.unusedVariables false
def f389.S0 (a:(List (aC))×(List (aA))×aF) (x:Int×Int×Int×Int):Tm:=⟨[.slice .ro 7 a.1.length (gl a6 a.1),.slice .ro 13 a.2.1.length (gl aB a.2.1),.dead,.dead,.dead,.ptr 0 0,.dead,.dead,.dead,.int .i64 x.1,.int .i64 x.2.1,.int .i64 x.2.2.1,.dead,.dead,.dead,.dead,.dead,.dead,.dead,.int .i64 (a.1.length:Int),.int .i64 x.2.2.2,.dead,.dead,.dead,.dead,.dead,.dead,.dead,.dead,.dead,.dead,.dead,.dead,.dead,.dead,.dead,.dead,.dead,.dead,.dead,.dead,.dead,.dead,.dead,.dead,.dead,.dead,.dead,.dead,.dead,.dead,.dead,.dead,.dead,.dead,.dead,.dead,.dead,.dead,.dead,.dead,.dead,.dead,.dead,.dead,.dead,.dead,.dead,.dead,.dead,.dead,.dead,.dead,.dead,.dead,.dead,.dead,.dead,.dead,.dead,.dead,.dead,.dead,.dead,.dead,.dead,.dead,.dead,.dead,.dead,.dead,.dead,.dead,.dead,.dead,.dead,.dead,.dead,.dead,.dead,.dead,.dead,.dead,.dead,.dead,.dead,.dead,.dead,.dead,.dead,.dead,.dead],[(0,false,[.str a.2.2.1,.str a.2.2.2.1,.int .i64 a.2.2.2.2.1,.int .i64 a.2.2.2.2.2.1.1,.int .i64 a.2.2.2.2.2.1.2.1,.int .i64 a.2.2.2.2.2.1.2.2,.slice .ro 2 a.2.2.2.2.2.2.1.length (gl aE a.2.2.2.2.2.2.1),.str a.2.2.2.2.2.2.2.1,.str a.2.2.2.2.2.2.2.2.1,.int .i64 a.2.2.2.2.2.2.2.2.2])],[]⟩
def f389.l0 (a:(List (aC))×(List (aA))×aF) (K:(Int×Int×Int×Int)→Prop) (t:Int×Int×Int×Int):Prop:=∃ x:Int×Int×Int×Int,SlS a6 a.1 (SlS aB a.2.1 ((t.1=x.1)∧(t.2.1=x.2.1)∧(t.2.2.1=x.2.2.1)∧((a.1.length:Int)=(a.1.length:Int))∧(t.2.2.2=x.2.2.2)∧(a.2.2.1=a.2.2.1)∧(a.2.2.2.1=a.2.2.2.1)∧(a.2.2.2.2.1=a.2.2.2.2.1)∧(a.2.2.2.2.2.1.1=a.2.2.2.2.2.1.1)∧(a.2.2.2.2.2.1.2.1=a.2.2.2.2.2.1.2.1)∧(a.2.2.2.2.2.1.2.2=a.2.2.2.2.2.1.2.2)∧SlS aE a.2.2.2.2.2.2.1 ((a.2.2.2.2.2.2.2.1=a.2.2.2.2.2.2.2.1)∧(a.2.2.2.2.2.2.2.2.1=a.2.2.2.2.2.2.2.2.1)∧(a.2.2.2.2.2.2.2.2.2=a.2.2.2.2.2.2.2.2.2)∧K x)))
theorem f389.l0i (a:(List (aC))×(List (aA))×aF) {K:(Int×Int×Int×Int)→Prop} {t:Int×Int×Int×Int} (h:K t):f389.l0 a K t:=⟨t,SlS.mk  (SlS.mk  (⟨rfl,⟨rfl,⟨rfl,⟨rfl,⟨rfl,⟨rfl,⟨rfl,⟨rfl,⟨rfl,⟨rfl,⟨rfl,SlS.mk  (⟨rfl,⟨rfl,⟨rfl,h⟩⟩⟩)⟩⟩⟩⟩⟩⟩⟩⟩⟩⟩⟩))⟩
def f389.kills (a:(List (aC))×(List (aA))×aF):List cB:=[.tell (Int×Int×Int×Int) (f389.S0 a)]
def f389.cuts (a:(List (aC))×(List (aA))×aF):List (Nat×Σ β:Type,β→Tm):=[]
def f389.af (a:(List (aC))×(List (aA))×aF):AF:=AF.mk (.seq (.region [oT 5 0 .box [2],
 ⟨(some 6),1,.move,[.c (.str ByteArray.empty)],none⟩,
 oT 7 2 (.nilSl 1) [],
 ⟨(some 8),3,.move,[.c (.bool false)],none⟩])
 (.seq (.region [⟨(some 9),4,.move,[.c (.int .i64 (-1))],none⟩,
 ⟨(some 10),5,.move,[.c (.int .i64 (0))],none⟩,
 ⟨(some 11),6,.move,[.c (.int .i64 (0))],none⟩])
 (.seq (.seq (.region [oT 18 7 .move [0],
 oT 19 8 (.len false) [18],
 ⟨(some 20),9,.move,[.c (.int .i64 (0))],none⟩])
 (.block 0 (.loopT (Int×Int×Int×Int) (f389.S0 a) 10 94 (.seq (.region [oT 21 10 (.bin .lss) [20,19]])
 (.seq (.cond (.t 21) (.skip) (.exit 0))
 (.seq (.block 1 (.seq (.region [oT 22 11 .move [20],
 oT 12 12 .move [22]])
 (.seq (.region [oT 24 13 .move [0],
 oT 25 14 .move [12],
 oT 26 15 (.indexAddr 7 none) [24,25],
 oT 27 16 (.load true 7) [26],
 oT 28 17 .move [1],
 oT 29 18 (.load true 10) [5],
 oT 30 19 (.call false 397) [27,28,29],
 oT 23 23 .move [30],
 oT 31 24 (.extract 0) [23],
 oT 32 25 (.extract 1) [23],
 oT 13 26 .move [31],
 oT 14 27 .move [32]])
 (.seq (.seq (.region [oT 33 28 .move [14],
 oT 34 29 (.un .not) [33]])
 (.cond (.t 34) (.exit 1) (.skip)))
 (.seq (.region [⟨(some 15),30,.move,[.c (.int .i64 (-1))],none⟩])
 (.seq (.seq (.region [oT 35 31 .move [13],
 oT 36 32 (.len false) [35],
 ⟨(some 37),33,(.bin .gtr),[.t 36,.c (.int .i64 (0))],none⟩])
 (.cond (.t 37) (.region [oT 38 34 .move [1],
 oT 39 35 .move [13],
 oT 40 36 .move [13],
 oT 41 37 (.len false) [40],
 ⟨(some 42),38,(.bin .sub),[.t 41,.c (.int .i64 (1))],none⟩,
 oT 43 39 (.indexAddr 1 none) [39,42],
 oT 44 40 (.load false 1) [43],
 oT 45 41 (.indexAddr 13 none) [38,44],
 oT 46 42 (.fieldAddr 0) [45],
 oT 47 43 (.fieldAddr 2) [46],
 oT 48 44 (.load false 1) [47],
 oT 15 45 .move [48]]) (.skip)))
 (.seq (.region [oT 49 46 .move [9],
 ⟨(some 50),47,(.bin .lss),[.t 49,.c (.int .i64 (0))],none⟩,
 oT 51 48 .move [50],
 oG 52 49 .move [13] 51 false,
 oG 53 50 (.len false) [52] 51 false,
 oG 54 51 .move [10] 51 false,
 oG 55 52 (.bin .lss) [53,54] 51 false,
 ⟨(some 56),53,.pick,[.t 51,.c (.bool true),.t 55],none⟩,
 oT 57 54 .move [56],
 oG 58 55 .move [13] 57 false,
 oG 59 56 (.len false) [58] 57 false,
 oG 60 57 .move [10] 57 false,
 oG 61 58 (.bin .eql) [59,60] 57 false,
 oG 62 59 .move [61] 57 false,
 oG 63 60 .move [15] 62 true,
 oG 64 61 .move [11] 62 true,
 oG 65 62 (.bin .lss) [63,64] 62 true,
 oG 66 63 .move [65] 62 true,
 oG 67 64 .move [15] 66 false,
 oG 68 65 .move [11] 66 false,
 oG 69 66 (.bin .eql) [67,68] 66 false,
 oG 70 67 .move [69] 66 false,
 oG 71 68 .move [0] 70 true,
 oG 72 69 .move [12] 70 true,
 oG 73 70 (.indexAddr 7 none) [71,72] 70 true,
 oG 74 71 (.fieldAddr 0) [73] 70 true,
 oG 75 72 (.fieldAddr 0) [74] 70 true,
 oG 76 73 (.load false 1) [75] 70 true,
 oG 77 74 .move [0] 70 true,
 oG 78 75 .move [9] 70 true,
 oG 79 76 (.indexAddr 7 none) [77,78] 70 true,
 oG 80 77 (.fieldAddr 0) [79] 70 true,
 oG 81 78 (.fieldAddr 0) [80] 70 true,
 oG 82 79 (.load false 1) [81] 70 true,
 oG 83 80 (.bin .lss) [76,82] 70 true,
 ⟨(some 84),81,.pick,[.t 70,.t 83,.c (.bool false)],(some (66,false))⟩,
 ⟨(some 85),82,.pick,[.t 66,.c (.bool true),.t 84],(some (62,true))⟩,
 ⟨(some 86),83,.pick,[.t 62,.t 85,.c (.bool false)],(some (57,false))⟩,
 ⟨(some 87),84,.pick,[.t 57,.c (.bool true),.t 86],none⟩])
 (.cond (.t 87) (.region [oT 88 85 .move [12],
 oT 89 86 .move [13],
 oT 90 87 (.len false) [89],
 oT 91 88 .move [15],
 oT 9 89 .move [88],
 oT 10 90 .move [90],
 oT 11 91 .move [91]]) (.skip)))))))))
 (.region [⟨(some 92),92,(.bin .add),[.t 20,.c (.int .i64 (1))],none⟩,
 oT 20 93 .move [92]])))))))
 (.seq (.seq (.region [oT 93 94 .move [9],
 ⟨(some 94),95,(.bin .lss),[.t 93,.c (.int .i64 (0))],none⟩])
 (.cond (.t 94) (.seq (.region [⟨(some 6),96,.move,[.c (.str ByteArray.empty)],none⟩,
 oT 7 97 (.nilSl 1) [],
 ⟨(some 8),98,.move,[.c (.bool false)],none⟩])
 (.ret)) (.skip)))
 (.seq (.region [oT 96 99 .move [0],
 oT 97 100 .move [9],
 oT 98 101 (.indexAddr 7 none) [96,97],
 oT 99 102 (.load true 7) [98],
 oT 100 103 .move [1],
 oT 101 104 (.load true 10) [5],
 oT 102 105 (.call false 388) [99,100,101],
 oT 95 109 .move [102],
 oT 103 110 (.extract 0) [95],
 oT 104 111 (.extract 1) [95],
 oT 16 112 .move [103],
 oT 17 113 .move [104]])
 (.seq (.region [oT 105 114 .move [0],
 oT 106 115 .move [9],
 oT 107 116 (.indexAddr 7 none) [105,106],
 oT 108 117 (.fieldAddr 0) [107],
 oT 109 118 (.fieldAddr 0) [108],
 oT 110 119 (.load false 1) [109],
 oT 111 120 .move [16],
 oT 6 121 .move [110],
 oT 7 122 .move [111],
 ⟨(some 8),123,.move,[.c (.bool true)],none⟩])
 (.ret)))))))
 [.tmp 6,.tmp 7,.tmp 8] 0 109
def f389.env:Env:=[(397,f397.C),(388,f388.C)]
def f389.tree (a:(List (aC))×(List (aA))×aF):Prop:=∃ (I2:(Int×Int×Int×Int)→Prop) (μ3:(Int×Int×Int×Int)→Nat),(f389.l0 a I2 ((-1:Int),(0:Int),(0:Int),(0:Int)))∧∀ y4:Int×Int×Int×Int,I2 y4→(Br (decide (y4.2.2.2 < (a.1.length:Int))) (Br (decide ((0:Int)≤y4.2.2.2)&&decide (y4.2.2.2 < (a.1.length:Int))) (f397.ent (fun c8=>(bY c8)∧Br (!((aK c8).2)) (Let (IntKind.i64.wrap (y4.2.2.2+(1:Int))) (fun v11:Int=>f389.l0 a (Dn I2 μ3 y4) (y4.1,y4.2.1,y4.2.2.1,v11))) (Br (decide ((0:Int) < (((aK c8).1).length:Int))) (Let (IntKind.i64.wrap ((((aK c8).1).length:Int) - (1:Int))) (fun v19:Int=>Br (decide ((0:Int)≤v19)&&decide (v19 < (((aK c8).1).length:Int))) (Br (decide ((0:Int)≤(at_ ((aK c8).1) v19))&&decide ((at_ ((aK c8).1) v19) < (a.2.1.length:Int))) (Br (decide (y4.1 < (0:Int))) (Let (IntKind.i64.wrap (y4.2.2.2+(1:Int))) (fun v24:Int=>f389.l0 a (Dn I2 μ3 y4) (y4.2.2.2,(((aK c8).1).length:Int),((at_ a.2.1 (at_ ((aK c8).1) v19)).1).2.2.1,v24))) (Br (decide ((((aK c8).1).length:Int) < y4.2.1)) (Let (IntKind.i64.wrap (y4.2.2.2+(1:Int))) (fun v32:Int=>f389.l0 a (Dn I2 μ3 y4) (y4.2.2.2,(((aK c8).1).length:Int),((at_ a.2.1 (at_ ((aK c8).1) v19)).1).2.2.1,v32))) (Br ((((aK c8).1).length:Int)==y4.2.1) (Br (decide ((((at_ a.2.1 (at_ ((aK c8).1) v19)).1).2.2.1) < y4.2.2.1)) (Let (IntKind.i64.wrap (y4.2.2.2+(1:Int))) (fun v42:Int=>f389.l0 a (Dn I2 μ3 y4) (y4.2.2.2,(((aK c8).1).length:Int),((at_ a.2.1 (at_ ((aK c8).1) v19)).1).2.2.1,v42))) (Br ((((at_ a.2.1 (at_ ((aK c8).1) v19)).1).2.2.1)==y4.2.2.1) (Br (decide ((0:Int)≤y4.2.2.2)&&decide (y4.2.2.2 < (a.1.length:Int))) (Br (decide ((0:Int)≤y4.1)&&decide (y4.1 < (a.1.length:Int))) (Br (Op.bytesLess (((at_ a.1 y4.2.2.2).1).1).toList (((at_ a.1 y4.1).1).1).toList) (Let (IntKind.i64.wrap (y4.2.2.2+(1:Int))) (fun v54:Int=>f389.l0 a (Dn I2 μ3 y4) (y4.2.2.2,(((aK c8).1).length:Int),((at_ a.2.1 (at_ ((aK c8).1) v19)).1).2.2.1,v54))) (Let (IntKind.i64.wrap (y4.2.2.2+(1:Int))) (fun v60:Int=>f389.l0 a (Dn I2 μ3 y4) (y4.1,y4.2.1,y4.2.2.1,v60)))) False) False) (Let (IntKind.i64.wrap (y4.2.2.2+(1:Int))) (fun v70:Int=>f389.l0 a (Dn I2 μ3 y4) (y4.1,y4.2.1,y4.2.2.1,v70))))) (Let (IntKind.i64.wrap (y4.2.2.2+(1:Int))) (fun v80:Int=>f389.l0 a (Dn I2 μ3 y4) (y4.1,y4.2.1,y4.2.2.1,v80)))))) False) False)) (Br (decide (y4.1 < (0:Int))) (Let (IntKind.i64.wrap (y4.2.2.2+(1:Int))) (fun v99:Int=>f389.l0 a (Dn I2 μ3 y4) (y4.2.2.2,(((aK c8).1).length:Int),(-1:Int),v99))) (Br (decide ((((aK c8).1).length:Int) < y4.2.1)) (Let (IntKind.i64.wrap (y4.2.2.2+(1:Int))) (fun v107:Int=>f389.l0 a (Dn I2 μ3 y4) (y4.2.2.2,(((aK c8).1).length:Int),(-1:Int),v107))) (Br ((((aK c8).1).length:Int)==y4.2.1) (Br (decide ((-1:Int) < y4.2.2.1)) (Let (IntKind.i64.wrap (y4.2.2.2+(1:Int))) (fun v117:Int=>f389.l0 a (Dn I2 μ3 y4) (y4.2.2.2,(((aK c8).1).length:Int),(-1:Int),v117))) (Br ((-1:Int)==y4.2.2.1) (Br (decide ((0:Int)≤y4.2.2.2)&&decide (y4.2.2.2 < (a.1.length:Int))) (Br (decide ((0:Int)≤y4.1)&&decide (y4.1 < (a.1.length:Int))) (Br (Op.bytesLess (((at_ a.1 y4.2.2.2).1).1).toList (((at_ a.1 y4.1).1).1).toList) (Let (IntKind.i64.wrap (y4.2.2.2+(1:Int))) (fun v129:Int=>f389.l0 a (Dn I2 μ3 y4) (y4.2.2.2,(((aK c8).1).length:Int),(-1:Int),v129))) (Let (IntKind.i64.wrap (y4.2.2.2+(1:Int))) (fun v135:Int=>f389.l0 a (Dn I2 μ3 y4) (y4.1,y4.2.1,y4.2.2.1,v135)))) False) False) (Let (IntKind.i64.wrap (y4.2.2.2+(1:Int))) (fun v145:Int=>f389.l0 a (Dn I2 μ3 y4) (y4.1,y4.2.1,y4.2.2.1,v145))))) (Let (IntKind.i64.wrap (y4.2.2.2+(1:Int))) (fun v155:Int=>f389.l0 a (Dn I2 μ3 y4) (y4.1,y4.2.1,y4.2.2.1,v155)))))))) ((((at_ a.1 y4.2.2.2).1),(at_ a.1 y4.2.2.2).2.1,(at_ a.1 y4.2.2.2).2.2),a.2.1,a.2.2)) False) (Br (decide (y4.1 < (0:Int))) ((0=0)∧(ByteArray.empty=((bA a).1))∧SlQ 0 (((bA a).2.1).length) cO (gl bN ((bA a).2.1)) ((false=((bA a).2.2))∧True)) (Br (decide ((0:Int)≤y4.1)&&decide (y4.1 < (a.1.length:Int))) (f388.ent (fun c177=>(bY c177)∧Br (decide ((0:Int)≤y4.1)&&decide (y4.1 < (a.1.length:Int))) (((((at_ a.1 y4.1).1).1)=((bA a).1))∧SlQ (((cN c177).1).length) (((bA a).2.1).length) (gl bN ((cN c177).1)) (gl bN ((bA a).2.1)) ((true=((bA a).2.2))∧True)) False) ((((at_ a.1 y4.1).1),(at_ a.1 y4.1).2.1,(at_ a.1 y4.1).2.2),a.2.1,a.2.2)) False)))
def f389.vc (a:(List (aC))×(List (aA))×aF):Prop:=(∃ (I2:(Int×Int×Int×Int)→Prop) (μ3:(Int×Int×Int×Int)→Nat),I2 ((-1:Int),(0:Int),(0:Int),(0:Int))∧∀ y4:Int×Int×Int×Int,I2 y4→((y4.2.2.2 < (a.1.length:Int)→((0:Int)≤y4.2.2.2∧y4.2.2.2 < (a.1.length:Int)∧(bY ((((at_ a.1 y4.2.2.2).1),(at_ a.1 y4.2.2.2).2.1,(at_ a.1 y4.2.2.2).2.2),a.2.1,a.2.2)∧((¬(((aK ((((at_ a.1 y4.2.2.2).1),(at_ a.1 y4.2.2.2).2.1,(at_ a.1 y4.2.2.2).2.2),a.2.1,a.2.2)).2)=true)→(-9223372036854775808≤(y4.2.2.2+(1:Int))∧(y4.2.2.2+(1:Int))≤9223372036854775807∧(I2 (y4.1,y4.2.1,y4.2.2.1,(y4.2.2.2+(1:Int)))∧μ3 (y4.1,y4.2.1,y4.2.2.1,(y4.2.2.2+(1:Int))) < μ3 y4)))∧(¬(¬(((aK ((((at_ a.1 y4.2.2.2).1),(at_ a.1 y4.2.2.2).2.1,(at_ a.1 y4.2.2.2).2.2),a.2.1,a.2.2)).2)=true))→(((0:Int) < (((aK ((((at_ a.1 y4.2.2.2).1),(at_ a.1 y4.2.2.2).2.1,(at_ a.1 y4.2.2.2).2.2),a.2.1,a.2.2)).1).length:Int)→(-9223372036854775808≤((((aK ((((at_ a.1 y4.2.2.2).1),(at_ a.1 y4.2.2.2).2.1,(at_ a.1 y4.2.2.2).2.2),a.2.1,a.2.2)).1).length:Int) - (1:Int))∧((((aK ((((at_ a.1 y4.2.2.2).1),(at_ a.1 y4.2.2.2).2.1,(at_ a.1 y4.2.2.2).2.2),a.2.1,a.2.2)).1).length:Int) - (1:Int))≤9223372036854775807∧((0:Int)≤((((aK ((((at_ a.1 y4.2.2.2).1),(at_ a.1 y4.2.2.2).2.1,(at_ a.1 y4.2.2.2).2.2),a.2.1,a.2.2)).1).length:Int) - (1:Int))∧((((aK ((((at_ a.1 y4.2.2.2).1),(at_ a.1 y4.2.2.2).2.1,(at_ a.1 y4.2.2.2).2.2),a.2.1,a.2.2)).1).length:Int) - (1:Int)) < (((aK ((((at_ a.1 y4.2.2.2).1),(at_ a.1 y4.2.2.2).2.1,(at_ a.1 y4.2.2.2).2.2),a.2.1,a.2.2)).1).length:Int)∧((0:Int)≤(at_ ((aK ((((at_ a.1 y4.2.2.2).1),(at_ a.1 y4.2.2.2).2.1,(at_ a.1 y4.2.2.2).2.2),a.2.1,a.2.2)).1) ((((aK ((((at_ a.1 y4.2.2.2).1),(at_ a.1 y4.2.2.2).2.1,(at_ a.1 y4.2.2.2).2.2),a.2.1,a.2.2)).1).length:Int) - (1:Int)))∧(at_ ((aK ((((at_ a.1 y4.2.2.2).1),(at_ a.1 y4.2.2.2).2.1,(at_ a.1 y4.2.2.2).2.2),a.2.1,a.2.2)).1) ((((aK ((((at_ a.1 y4.2.2.2).1),(at_ a.1 y4.2.2.2).2.1,(at_ a.1 y4.2.2.2).2.2),a.2.1,a.2.2)).1).length:Int) - (1:Int))) < (a.2.1.length:Int)∧((y4.1 < (0:Int)→(-9223372036854775808≤(y4.2.2.2+(1:Int))∧(y4.2.2.2+(1:Int))≤9223372036854775807∧(I2 (y4.2.2.2,(((aK ((((at_ a.1 y4.2.2.2).1),(at_ a.1 y4.2.2.2).2.1,(at_ a.1 y4.2.2.2).2.2),a.2.1,a.2.2)).1).length:Int),((at_ a.2.1 (at_ ((aK ((((at_ a.1 y4.2.2.2).1),(at_ a.1 y4.2.2.2).2.1,(at_ a.1 y4.2.2.2).2.2),a.2.1,a.2.2)).1) ((((aK ((((at_ a.1 y4.2.2.2).1),(at_ a.1 y4.2.2.2).2.1,(at_ a.1 y4.2.2.2).2.2),a.2.1,a.2.2)).1).length:Int) - (1:Int)))).1).2.2.1,(y4.2.2.2+(1:Int)))∧μ3 (y4.2.2.2,(((aK ((((at_ a.1 y4.2.2.2).1),(at_ a.1 y4.2.2.2).2.1,(at_ a.1 y4.2.2.2).2.2),a.2.1,a.2.2)).1).length:Int),((at_ a.2.1 (at_ ((aK ((((at_ a.1 y4.2.2.2).1),(at_ a.1 y4.2.2.2).2.1,(at_ a.1 y4.2.2.2).2.2),a.2.1,a.2.2)).1) ((((aK ((((at_ a.1 y4.2.2.2).1),(at_ a.1 y4.2.2.2).2.1,(at_ a.1 y4.2.2.2).2.2),a.2.1,a.2.2)).1).length:Int) - (1:Int)))).1).2.2.1,(y4.2.2.2+(1:Int))) < μ3 y4)))∧(¬(y4.1 < (0:Int))→(((((aK ((((at_ a.1 y4.2.2.2).1),(at_ a.1 y4.2.2.2).2.1,(at_ a.1 y4.2.2.2).2.2),a.2.1,a.2.2)).1).length:Int) < y4.2.1→(-9223372036854775808≤(y4.2.2.2+(1:Int))∧(y4.2.2.2+(1:Int))≤9223372036854775807∧(I2 (y4.2.2.2,(((aK ((((at_ a.1 y4.2.2.2).1),(at_ a.1 y4.2.2.2).2.1,(at_ a.1 y4.2.2.2).2.2),a.2.1,a.2.2)).1).length:Int),((at_ a.2.1 (at_ ((aK ((((at_ a.1 y4.2.2.2).1),(at_ a.1 y4.2.2.2).2.1,(at_ a.1 y4.2.2.2).2.2),a.2.1,a.2.2)).1) ((((aK ((((at_ a.1 y4.2.2.2).1),(at_ a.1 y4.2.2.2).2.1,(at_ a.1 y4.2.2.2).2.2),a.2.1,a.2.2)).1).length:Int) - (1:Int)))).1).2.2.1,(y4.2.2.2+(1:Int)))∧μ3 (y4.2.2.2,(((aK ((((at_ a.1 y4.2.2.2).1),(at_ a.1 y4.2.2.2).2.1,(at_ a.1 y4.2.2.2).2.2),a.2.1,a.2.2)).1).length:Int),((at_ a.2.1 (at_ ((aK ((((at_ a.1 y4.2.2.2).1),(at_ a.1 y4.2.2.2).2.1,(at_ a.1 y4.2.2.2).2.2),a.2.1,a.2.2)).1) ((((aK ((((at_ a.1 y4.2.2.2).1),(at_ a.1 y4.2.2.2).2.1,(at_ a.1 y4.2.2.2).2.2),a.2.1,a.2.2)).1).length:Int) - (1:Int)))).1).2.2.1,(y4.2.2.2+(1:Int))) < μ3 y4)))∧(¬((((aK ((((at_ a.1 y4.2.2.2).1),(at_ a.1 y4.2.2.2).2.1,(at_ a.1 y4.2.2.2).2.2),a.2.1,a.2.2)).1).length:Int) < y4.2.1)→(((((aK ((((at_ a.1 y4.2.2.2).1),(at_ a.1 y4.2.2.2).2.1,(at_ a.1 y4.2.2.2).2.2),a.2.1,a.2.2)).1).length:Int)=y4.2.1→(((((at_ a.2.1 (at_ ((aK ((((at_ a.1 y4.2.2.2).1),(at_ a.1 y4.2.2.2).2.1,(at_ a.1 y4.2.2.2).2.2),a.2.1,a.2.2)).1) ((((aK ((((at_ a.1 y4.2.2.2).1),(at_ a.1 y4.2.2.2).2.1,(at_ a.1 y4.2.2.2).2.2),a.2.1,a.2.2)).1).length:Int) - (1:Int)))).1).2.2.1) < y4.2.2.1→(-9223372036854775808≤(y4.2.2.2+(1:Int))∧(y4.2.2.2+(1:Int))≤9223372036854775807∧(I2 (y4.2.2.2,(((aK ((((at_ a.1 y4.2.2.2).1),(at_ a.1 y4.2.2.2).2.1,(at_ a.1 y4.2.2.2).2.2),a.2.1,a.2.2)).1).length:Int),((at_ a.2.1 (at_ ((aK ((((at_ a.1 y4.2.2.2).1),(at_ a.1 y4.2.2.2).2.1,(at_ a.1 y4.2.2.2).2.2),a.2.1,a.2.2)).1) ((((aK ((((at_ a.1 y4.2.2.2).1),(at_ a.1 y4.2.2.2).2.1,(at_ a.1 y4.2.2.2).2.2),a.2.1,a.2.2)).1).length:Int) - (1:Int)))).1).2.2.1,(y4.2.2.2+(1:Int)))∧μ3 (y4.2.2.2,(((aK ((((at_ a.1 y4.2.2.2).1),(at_ a.1 y4.2.2.2).2.1,(at_ a.1 y4.2.2.2).2.2),a.2.1,a.2.2)).1).length:Int),((at_ a.2.1 (at_ ((aK ((((at_ a.1 y4.2.2.2).1),(at_ a.1 y4.2.2.2).2.1,(at_ a.1 y4.2.2.2).2.2),a.2.1,a.2.2)).1) ((((aK ((((at_ a.1 y4.2.2.2).1),(at_ a.1 y4.2.2.2).2.1,(at_ a.1 y4.2.2.2).2.2),a.2.1,a.2.2)).1).length:Int) - (1:Int)))).1).2.2.1,(y4.2.2.2+(1:Int))) < μ3 y4)))∧(¬((((at_ a.2.1 (at_ ((aK ((((at_ a.1 y4.2.2.2).1),(at_ a.1 y4.2.2.2).2.1,(at_ a.1 y4.2.2.2).2.2),a.2.1,a.2.2)).1) ((((aK ((((at_ a.1 y4.2.2.2).1),(at_ a.1 y4.2.2.2).2.1,(at_ a.1 y4.2.2.2).2.2),a.2.1,a.2.2)).1).length:Int) - (1:Int)))).1).2.2.1) < y4.2.2.1)→(((((at_ a.2.1 (at_ ((aK ((((at_ a.1 y4.2.2.2).1),(at_ a.1 y4.2.2.2).2.1,(at_ a.1 y4.2.2.2).2.2),a.2.1,a.2.2)).1) ((((aK ((((at_ a.1 y4.2.2.2).1),(at_ a.1 y4.2.2.2).2.1,(at_ a.1 y4.2.2.2).2.2),a.2.1,a.2.2)).1).length:Int) - (1:Int)))).1).2.2.1)=y4.2.2.1→((0:Int)≤y4.2.2.2∧y4.2.2.2 < (a.1.length:Int)∧((0:Int)≤y4.1∧y4.1 < (a.1.length:Int)∧((sLt (((at_ a.1 y4.2.2.2).1).1) (((at_ a.1 y4.1).1).1)→(-9223372036854775808≤(y4.2.2.2+(1:Int))∧(y4.2.2.2+(1:Int))≤9223372036854775807∧(I2 (y4.2.2.2,(((aK ((((at_ a.1 y4.2.2.2).1),(at_ a.1 y4.2.2.2).2.1,(at_ a.1 y4.2.2.2).2.2),a.2.1,a.2.2)).1).length:Int),((at_ a.2.1 (at_ ((aK ((((at_ a.1 y4.2.2.2).1),(at_ a.1 y4.2.2.2).2.1,(at_ a.1 y4.2.2.2).2.2),a.2.1,a.2.2)).1) ((((aK ((((at_ a.1 y4.2.2.2).1),(at_ a.1 y4.2.2.2).2.1,(at_ a.1 y4.2.2.2).2.2),a.2.1,a.2.2)).1).length:Int) - (1:Int)))).1).2.2.1,(y4.2.2.2+(1:Int)))∧μ3 (y4.2.2.2,(((aK ((((at_ a.1 y4.2.2.2).1),(at_ a.1 y4.2.2.2).2.1,(at_ a.1 y4.2.2.2).2.2),a.2.1,a.2.2)).1).length:Int),((at_ a.2.1 (at_ ((aK ((((at_ a.1 y4.2.2.2).1),(at_ a.1 y4.2.2.2).2.1,(at_ a.1 y4.2.2.2).2.2),a.2.1,a.2.2)).1) ((((aK ((((at_ a.1 y4.2.2.2).1),(at_ a.1 y4.2.2.2).2.1,(at_ a.1 y4.2.2.2).2.2),a.2.1,a.2.2)).1).length:Int) - (1:Int)))).1).2.2.1,(y4.2.2.2+(1:Int))) < μ3 y4)))∧(¬(sLt (((at_ a.1 y4.2.2.2).1).1) (((at_ a.1 y4.1).1).1))→(-9223372036854775808≤(y4.2.2.2+(1:Int))∧(y4.2.2.2+(1:Int))≤9223372036854775807∧(I2 (y4.1,y4.2.1,y4.2.2.1,(y4.2.2.2+(1:Int)))∧μ3 (y4.1,y4.2.1,y4.2.2.1,(y4.2.2.2+(1:Int))) < μ3 y4)))))))∧(¬((((at_ a.2.1 (at_ ((aK ((((at_ a.1 y4.2.2.2).1),(at_ a.1 y4.2.2.2).2.1,(at_ a.1 y4.2.2.2).2.2),a.2.1,a.2.2)).1) ((((aK ((((at_ a.1 y4.2.2.2).1),(at_ a.1 y4.2.2.2).2.1,(at_ a.1 y4.2.2.2).2.2),a.2.1,a.2.2)).1).length:Int) - (1:Int)))).1).2.2.1)=y4.2.2.1)→(-9223372036854775808≤(y4.2.2.2+(1:Int))∧(y4.2.2.2+(1:Int))≤9223372036854775807∧(I2 (y4.1,y4.2.1,y4.2.2.1,(y4.2.2.2+(1:Int)))∧μ3 (y4.1,y4.2.1,y4.2.2.1,(y4.2.2.2+(1:Int))) < μ3 y4)))))))∧(¬((((aK ((((at_ a.1 y4.2.2.2).1),(at_ a.1 y4.2.2.2).2.1,(at_ a.1 y4.2.2.2).2.2),a.2.1,a.2.2)).1).length:Int)=y4.2.1)→(-9223372036854775808≤(y4.2.2.2+(1:Int))∧(y4.2.2.2+(1:Int))≤9223372036854775807∧(I2 (y4.1,y4.2.1,y4.2.2.1,(y4.2.2.2+(1:Int)))∧μ3 (y4.1,y4.2.1,y4.2.2.1,(y4.2.2.2+(1:Int))) < μ3 y4))))))))))))∧(¬((0:Int) < (((aK ((((at_ a.1 y4.2.2.2).1),(at_ a.1 y4.2.2.2).2.1,(at_ a.1 y4.2.2.2).2.2),a.2.1,a.2.2)).1).length:Int))→((y4.1 < (0:Int)→(-9223372036854775808≤(y4.2.2.2+(1:Int))∧(y4.2.2.2+(1:Int))≤9223372036854775807∧(I2 (y4.2.2.2,(((aK ((((at_ a.1 y4.2.2.2).1),(at_ a.1 y4.2.2.2).2.1,(at_ a.1 y4.2.2.2).2.2),a.2.1,a.2.2)).1).length:Int),(-1:Int),(y4.2.2.2+(1:Int)))∧μ3 (y4.2.2.2,(((aK ((((at_ a.1 y4.2.2.2).1),(at_ a.1 y4.2.2.2).2.1,(at_ a.1 y4.2.2.2).2.2),a.2.1,a.2.2)).1).length:Int),(-1:Int),(y4.2.2.2+(1:Int))) < μ3 y4)))∧(¬(y4.1 < (0:Int))→(((((aK ((((at_ a.1 y4.2.2.2).1),(at_ a.1 y4.2.2.2).2.1,(at_ a.1 y4.2.2.2).2.2),a.2.1,a.2.2)).1).length:Int) < y4.2.1→(-9223372036854775808≤(y4.2.2.2+(1:Int))∧(y4.2.2.2+(1:Int))≤9223372036854775807∧(I2 (y4.2.2.2,(((aK ((((at_ a.1 y4.2.2.2).1),(at_ a.1 y4.2.2.2).2.1,(at_ a.1 y4.2.2.2).2.2),a.2.1,a.2.2)).1).length:Int),(-1:Int),(y4.2.2.2+(1:Int)))∧μ3 (y4.2.2.2,(((aK ((((at_ a.1 y4.2.2.2).1),(at_ a.1 y4.2.2.2).2.1,(at_ a.1 y4.2.2.2).2.2),a.2.1,a.2.2)).1).length:Int),(-1:Int),(y4.2.2.2+(1:Int))) < μ3 y4)))∧(¬((((aK ((((at_ a.1 y4.2.2.2).1),(at_ a.1 y4.2.2.2).2.1,(at_ a.1 y4.2.2.2).2.2),a.2.1,a.2.2)).1).length:Int) < y4.2.1)→(((((aK ((((at_ a.1 y4.2.2.2).1),(at_ a.1 y4.2.2.2).2.1,(at_ a.1 y4.2.2.2).2.2),a.2.1,a.2.2)).1).length:Int)=y4.2.1→(((-1:Int) < y4.2.2.1→(-9223372036854775808≤(y4.2.2.2+(1:Int))∧(y4.2.2.2+(1:Int))≤9223372036854775807∧(I2 (y4.2.2.2,(((aK ((((at_ a.1 y4.2.2.2).1),(at_ a.1 y4.2.2.2).2.1,(at_ a.1 y4.2.2.2).2.2),a.2.1,a.2.2)).1).length:Int),(-1:Int),(y4.2.2.2+(1:Int)))∧μ3 (y4.2.2.2,(((aK ((((at_ a.1 y4.2.2.2).1),(at_ a.1 y4.2.2.2).2.1,(at_ a.1 y4.2.2.2).2.2),a.2.1,a.2.2)).1).length:Int),(-1:Int),(y4.2.2.2+(1:Int))) < μ3 y4)))∧(¬((-1:Int) < y4.2.2.1)→(((-1:Int)=y4.2.2.1→((0:Int)≤y4.2.2.2∧y4.2.2.2 < (a.1.length:Int)∧((0:Int)≤y4.1∧y4.1 < (a.1.length:Int)∧((sLt (((at_ a.1 y4.2.2.2).1).1) (((at_ a.1 y4.1).1).1)→(-9223372036854775808≤(y4.2.2.2+(1:Int))∧(y4.2.2.2+(1:Int))≤9223372036854775807∧(I2 (y4.2.2.2,(((aK ((((at_ a.1 y4.2.2.2).1),(at_ a.1 y4.2.2.2).2.1,(at_ a.1 y4.2.2.2).2.2),a.2.1,a.2.2)).1).length:Int),(-1:Int),(y4.2.2.2+(1:Int)))∧μ3 (y4.2.2.2,(((aK ((((at_ a.1 y4.2.2.2).1),(at_ a.1 y4.2.2.2).2.1,(at_ a.1 y4.2.2.2).2.2),a.2.1,a.2.2)).1).length:Int),(-1:Int),(y4.2.2.2+(1:Int))) < μ3 y4)))∧(¬(sLt (((at_ a.1 y4.2.2.2).1).1) (((at_ a.1 y4.1).1).1))→(-9223372036854775808≤(y4.2.2.2+(1:Int))∧(y4.2.2.2+(1:Int))≤9223372036854775807∧(I2 (y4.1,y4.2.1,y4.2.2.1,(y4.2.2.2+(1:Int)))∧μ3 (y4.1,y4.2.1,y4.2.2.1,(y4.2.2.2+(1:Int))) < μ3 y4)))))))∧(¬((-1:Int)=y4.2.2.1)→(-9223372036854775808≤(y4.2.2.2+(1:Int))∧(y4.2.2.2+(1:Int))≤9223372036854775807∧(I2 (y4.1,y4.2.1,y4.2.2.1,(y4.2.2.2+(1:Int)))∧μ3 (y4.1,y4.2.1,y4.2.2.1,(y4.2.2.2+(1:Int))) < μ3 y4)))))))∧(¬((((aK ((((at_ a.1 y4.2.2.2).1),(at_ a.1 y4.2.2.2).2.1,(at_ a.1 y4.2.2.2).2.2),a.2.1,a.2.2)).1).length:Int)=y4.2.1)→(-9223372036854775808≤(y4.2.2.2+(1:Int))∧(y4.2.2.2+(1:Int))≤9223372036854775807∧(I2 (y4.1,y4.2.1,y4.2.2.1,(y4.2.2.2+(1:Int)))∧μ3 (y4.1,y4.2.1,y4.2.2.1,(y4.2.2.2+(1:Int))) < μ3 y4)))))))))))))))∧(¬(y4.2.2.2 < (a.1.length:Int))→((y4.1 < (0:Int)→((ByteArray.empty,[],false)=bA a))∧(¬(y4.1 < (0:Int))→((0:Int)≤y4.1∧y4.1 < (a.1.length:Int)∧(bY ((((at_ a.1 y4.1).1),(at_ a.1 y4.1).2.1,(at_ a.1 y4.1).2.2),a.2.1,a.2.2)∧((0:Int)≤y4.1∧y4.1 < (a.1.length:Int)∧((((at_ a.1 y4.1).1).1,(cN ((((at_ a.1 y4.1).1),(at_ a.1 y4.1).2.1,(at_ a.1 y4.1).2.2),a.2.1,a.2.2)).1,true)=bA a)))))))))
set_option maxRecDepth 100000 in
set_option maxHeartbeats 2000000 in
theorem f389.of (a:(List (aC))×(List (aA))×aF) (h:f389.vc a):f389.tree a:=Exists.elim h (fun I2 h187_=>Exists.elim h187_ (fun μ3 h187=>⟨I2,μ3,(f389.l0i a h187.1),fun y4 h189=>br (h187.2 y4 h189) Cnd.dec (fun h5 k185=>chk k185.2.2 Cnd.ix ⟨k185.1,k185.2.1⟩ (fun h7 k172=>(f397.ei ⟨k172.1,br k172.2 (Cnd.not Cnd.b) (fun h9 k169=>wrapK.i64 k169 (fun h14 h15 k16=>(f389.l0i a k16))) (fun h10 k170=>br k170 Cnd.dec (fun h17 k167=>wrapK.i64 k167 (fun h94 h95 k96=>chk k96.2.2 Cnd.ix ⟨k96.1,k96.2.1⟩ (fun h20 k93=>chk k93.2.2 Cnd.ix ⟨k93.1,k93.2.1⟩ (fun h21 k92=>br k92 Cnd.dec (fun h22 k90=>wrapK.i64 k90 (fun h27 h28 k29=>(f389.l0i a k29))) (fun h23 k91=>br k91 Cnd.dec (fun h30 k88=>wrapK.i64 k88 (fun h35 h36 k37=>(f389.l0i a k37))) (fun h31 k89=>br k89 Cnd.eq (fun h38 k86=>br k86 Cnd.dec (fun h40 k78=>wrapK.i64 k78 (fun h45 h46 k47=>(f389.l0i a k47))) (fun h41 k79=>br k79 Cnd.eq (fun h48 k76=>chk k76.2.2 Cnd.ix ⟨k76.1,k76.2.1⟩ (fun h50 k69=>chk k69.2.2 Cnd.ix ⟨k69.1,k69.2.1⟩ (fun h51 k68=>br k68 Cnd.sl_ (fun h52 k66=>wrapK.i64 k66 (fun h57 h58 k59=>(f389.l0i a k59))) (fun h53 k67=>wrapK.i64 k67 (fun h63 h64 k65=>(f389.l0i a k65)))))) (fun h49 k77=>wrapK.i64 k77 (fun h73 h74 k75=>(f389.l0i a k75))))) (fun h39 k87=>wrapK.i64 k87 (fun h83 h84 k85=>(f389.l0i a k85))))))))) (fun h18 k168=>br k168 Cnd.dec (fun h97 k165=>wrapK.i64 k165 (fun h102 h103 k104=>(f389.l0i a k104))) (fun h98 k166=>br k166 Cnd.dec (fun h105 k163=>wrapK.i64 k163 (fun h110 h111 k112=>(f389.l0i a k112))) (fun h106 k164=>br k164 Cnd.eq (fun h113 k161=>br k161 Cnd.dec (fun h115 k153=>wrapK.i64 k153 (fun h120 h121 k122=>(f389.l0i a k122))) (fun h116 k154=>br k154 Cnd.eq (fun h123 k151=>chk k151.2.2 Cnd.ix ⟨k151.1,k151.2.1⟩ (fun h125 k144=>chk k144.2.2 Cnd.ix ⟨k144.1,k144.2.1⟩ (fun h126 k143=>br k143 Cnd.sl_ (fun h127 k141=>wrapK.i64 k141 (fun h132 h133 k134=>(f389.l0i a k134))) (fun h128 k142=>wrapK.i64 k142 (fun h138 h139 k140=>(f389.l0i a k140)))))) (fun h124 k152=>wrapK.i64 k152 (fun h148 h149 k150=>(f389.l0i a k150))))) (fun h114 k162=>wrapK.i64 k162 (fun h158 h159 k160=>(f389.l0i a k160)))))))⟩))) (fun h6 k186=>br k186 Cnd.dec (fun h173 k183=>⟨rfl,⟨(congrArg (fun x:ByteArray×(List (ByteArray))×Bool=>x.1) k183 :),slQ (Rds.to (Rds.nil (enc:=bN)) (congrArg (fun x:ByteArray×(List (ByteArray))×Bool=>x.2.1) k183 :)) (⟨(congrArg (fun x:ByteArray×(List (ByteArray))×Bool=>x.2.2) k183 :),trivial⟩)⟩⟩) (fun h174 k184=>chk k184.2.2 Cnd.ix ⟨k184.1,k184.2.1⟩ (fun h176 k182=>(f388.ei ⟨k182.1,chk k182.2.2.2 Cnd.ix ⟨k182.2.1,k182.2.2.1⟩ (fun h178 k180=>⟨(congrArg (fun x:ByteArray×(List (ByteArray))×Bool=>x.1) k180 :),slQ (Rds.to (Rds.self (enc:=bN)) (congrArg (fun x:ByteArray×(List (ByteArray))×Bool=>x.2.1) k180 :)) (⟨(congrArg (fun x:ByteArray×(List (ByteArray))×Bool=>x.2.2) k180 :),trivial⟩)⟩)⟩))))⟩))
theorem f389.eq (a:(List (aC))×(List (aA))×aF):(f389.af a).gives f389.env (f389.args a) (f389.blks a) (f389.res a) (f389.blks' a)=f389.tree a:=by kernel_rfl
end Go.Abs

/- interregnum/interregnumref11.Why -/
namespace Go.Abs
open Go
set_option linter.unusedVariables false
def f399.S0 (a:aC×(List (aA))×aF) (x:Int×Int×Int×Int):Tm:=⟨[.dead,.slice .ro 13 a.2.1.length (gl aB a.2.1),.dead,.ptr 0 0,.dead,.ptr 1 0,.dead,.ptr 12 0,.dead,.dead,.dead,.dead,.dead,.dead,.dead,.dead,.dead,.dead,.dead,.dead,.dead,.dead,.dead,.dead,.dead,.dead,.dead,.dead,.dead,.dead,.dead,.dead,.dead,.dead,.dead,.dead,.dead,.dead,.dead,.dead,.dead,.int .i64 (a.2.1.length:Int),.int .i64 x.1,.dead,.dead,.dead,.dead,.dead,.dead,.dead,.dead,.dead,.dead,.dead,.dead,.dead,.dead,.dead,.dead,.dead,.dead,.dead,.dead,.dead,.dead,.dead,.dead,.dead,.dead,.dead,.dead,.dead,.dead,.dead,.dead,.dead,.dead,.dead,.dead,.dead,.dead,.dead],[(0,false,[.str a.1.1.1,.int .i64 a.1.1.2.1.1,.int .i64 a.1.1.2.1.2.1,.int .i64 a.1.1.2.1.2.2,.slice .ro 2 a.1.1.2.2.length (gl aE a.1.1.2.2),.bool a.1.2.1,.int .i64 a.1.2.2]),(1,false,[.str a.2.2.1,.str a.2.2.2.1,.int .i64 a.2.2.2.2.1,.int .i64 a.2.2.2.2.2.1.1,.int .i64 a.2.2.2.2.2.1.2.1,.int .i64 a.2.2.2.2.2.1.2.2,.slice .ro 2 a.2.2.2.2.2.2.1.length (gl aE a.2.2.2.2.2.2.1),.str a.2.2.2.2.2.2.2.1,.str a.2.2.2.2.2.2.2.2.1,.int .i64 a.2.2.2.2.2.2.2.2.2]),(12,false,[.int .i64 x.2.1,.int .i64 x.2.2.1,.int .i64 x.2.2.2])],[]⟩
def f399.l0 (a:aC×(List (aA))×aF) (K:(Int×Int×Int×Int)→Prop) (t:Int×Int×Int×Int):Prop:=∃ x:Int×Int×Int×Int,SlS aB a.2.1 (((a.2.1.length:Int)=(a.2.1.length:Int))∧(t.1=x.1)∧(a.1.1.1=a.1.1.1)∧(a.1.1.2.1.1=a.1.1.2.1.1)∧(a.1.1.2.1.2.1=a.1.1.2.1.2.1)∧(a.1.1.2.1.2.2=a.1.1.2.1.2.2)∧SlS aE a.1.1.2.2 ((a.1.2.1=a.1.2.1)∧(a.1.2.2=a.1.2.2)∧(a.2.2.1=a.2.2.1)∧(a.2.2.2.1=a.2.2.2.1)∧(a.2.2.2.2.1=a.2.2.2.2.1)∧(a.2.2.2.2.2.1.1=a.2.2.2.2.2.1.1)∧(a.2.2.2.2.2.1.2.1=a.2.2.2.2.2.1.2.1)∧(a.2.2.2.2.2.1.2.2=a.2.2.2.2.2.1.2.2)∧SlS aE a.2.2.2.2.2.2.1 ((a.2.2.2.2.2.2.2.1=a.2.2.2.2.2.2.2.1)∧(a.2.2.2.2.2.2.2.2.1=a.2.2.2.2.2.2.2.2.1)∧(a.2.2.2.2.2.2.2.2.2=a.2.2.2.2.2.2.2.2.2)∧(t.2.1=x.2.1)∧(t.2.2.1=x.2.2.1)∧(t.2.2.2=x.2.2.2)∧K x)))
theorem f399.l0i (a:aC×(List (aA))×aF) {K:(Int×Int×Int×Int)→Prop} {t:Int×Int×Int×Int} (h:K t):f399.l0 a K t:=⟨t,SlS.mk  (⟨rfl,⟨rfl,⟨rfl,⟨rfl,⟨rfl,⟨rfl,SlS.mk  (⟨rfl,⟨rfl,⟨rfl,⟨rfl,⟨rfl,⟨rfl,⟨rfl,⟨rfl,SlS.mk  (⟨rfl,⟨rfl,⟨rfl,⟨rfl,⟨rfl,⟨rfl,h⟩⟩⟩⟩⟩⟩)⟩⟩⟩⟩⟩⟩⟩⟩)⟩⟩⟩⟩⟩⟩)⟩
def f399.kills (a:aC×(List (aA))×aF):List cB:=[.tell (Int×Int×Int×Int) (f399.S0 a)]
def f399.cuts (a:aC×(List (aA))×aF):List (Nat×Σ β:Type,β→Tm):=[]
def f399.af (a:aC×(List (aA))×aF):AF:=AF.mk (.seq (.region [oT 3 0 .box [0],
 oT 5 1 .box [2],
 ⟨(some 6),2,.move,[.c (.int .i64 (0))],none⟩])
 (.seq (.region [oT 12 3 (.load true 7) [3],
 oT 13 4 .move [1],
 oT 14 5 (.call false 365) [12,13],
 oT 11 9 .move [14],
 oT 15 10 (.extract 0) [11],
 oT 16 11 (.extract 1) [11],
 oT 7 12 (.alloc [.int .i64 (0),.int .i64 (0),.int .i64 (0)]) [],
 ⟨none,16,(.store 3),[.t 7,.t 15],none⟩,
 oT 8 17 .move [16]])
 (.seq (.seq (.region [oT 17 18 (.fieldAddr 0) [3],
 oT 18 19 (.load true 5) [17],
 oT 19 20 (.call false 36) [18],
 oT 20 24 (.un .not) [19],
 oT 21 25 .move [20],
 oG 22 26 (.load true 10) [5] 21 false,
 oG 23 27 (.call false 38) [22] 21 false,
 oG 24 31 (.un .not) [23] 21 false,
 ⟨(some 25),32,.pick,[.t 21,.c (.bool true),.t 24],none⟩,
 oT 26 33 .move [25],
 oG 27 34 .move [8] 26 false,
 ⟨(some 28),35,(.bin .neq),[.t 27,.c (.int .i64 (0))],(some (26,false))⟩,
 ⟨(some 29),36,.pick,[.t 26,.c (.bool true),.t 28],none⟩])
 (.cond (.t 29) (.seq (.region [⟨(some 6),37,.move,[.c (.int .i64 (5))],none⟩])
 (.ret)) (.skip)))
 (.seq (.seq (.region [oT 30 38 (.fieldAddr 5) [3],
 oT 31 39 (.load false 1) [30],
 oT 32 40 (.un .not) [31]])
 (.cond (.t 32) (.seq (.region [⟨(some 6),41,.move,[.c (.int .i64 (1))],none⟩])
 (.ret)) (.skip)))
 (.seq (.seq (.region [oT 33 42 (.fieldAddr 0) [3],
 oT 34 43 (.fieldAddr 4) [33],
 oT 35 44 (.load false 1) [34],
 oT 36 45 (.fieldAddr 6) [5],
 oT 37 46 (.load false 1) [36],
 oT 38 47 (.call false 360) [35,37],
 oT 39 51 (.un .not) [38]])
 (.cond (.t 39) (.seq (.region [⟨(some 6),52,.move,[.c (.int .i64 (2))],none⟩])
 (.ret)) (.skip)))
 (.seq (.seq (.region [oT 40 53 .move [1],
 oT 41 54 (.len false) [40],
 ⟨(some 42),55,.move,[.c (.int .i64 (0))],none⟩])
 (.block 0 (.loopT (Int×Int×Int×Int) (f399.S0 a) 56 108 (.seq (.region [oT 43 56 (.bin .lss) [42,41]])
 (.seq (.cond (.t 43) (.skip) (.exit 0))
 (.seq (.block 1 (.seq (.region [oT 44 57 .move [42],
 oT 9 58 .move [44]])
 (.seq (.region [oT 45 59 .move [1],
 oT 46 60 .move [9],
 oT 47 61 (.indexAddr 13 none) [45,46],
 oT 48 62 (.load true 13) [47],
 oT 10 63 (.alloc [.str ByteArray.empty,.str ByteArray.empty,.int .i64 (0),.int .i64 (0),.int .i64 (0),.int .i64 (0),.slice (.own 0) 2 0 cO,.str ByteArray.empty,.str ByteArray.empty,.int .i64 (0),.int .i64 (0),.str ByteArray.empty,.int .i64 (0)]) [],
 ⟨none,77,(.store 13),[.t 10,.t 48],none⟩])
 (.seq (.region [oT 49 78 (.fieldAddr 7) [5],
 oT 50 79 (.load false 1) [49],
 ⟨(some 51),80,(.bin .neq),[.t 50,.c (.str ByteArray.empty)],none⟩,
 oT 52 81 .move [51],
 oG 53 82 (.fieldAddr 11) [10] 52 true,
 oG 54 83 (.load false 1) [53] 52 true,
 oG 55 84 (.fieldAddr 0) [3] 52 true,
 oG 56 85 (.fieldAddr 0) [55] 52 true,
 oG 57 86 (.load false 1) [56] 52 true,
 oG 58 87 (.bin .eql) [54,57] 52 true,
 ⟨(some 59),88,.pick,[.t 52,.t 58,.c (.bool false)],none⟩,
 oT 60 89 .move [59],
 oG 61 90 (.fieldAddr 0) [10] 60 true,
 oG 62 91 (.fieldAddr 0) [61] 60 true,
 oG 63 92 (.load false 1) [62] 60 true,
 oG 64 93 (.fieldAddr 0) [5] 60 true,
 oG 65 94 (.load false 1) [64] 60 true,
 oG 66 95 (.bin .neq) [63,65] 60 true,
 ⟨(some 67),96,.pick,[.t 60,.t 66,.c (.bool false)],none⟩,
 oT 68 97 .move [67],
 oG 69 98 (.fieldAddr 0) [10] 68 true,
 oG 70 99 (.fieldAddr 7) [69] 68 true,
 oG 71 100 (.load false 1) [70] 68 true,
 oG 72 101 (.fieldAddr 7) [5] 68 true,
 oG 73 102 (.load false 1) [72] 68 true,
 oG 74 103 (.bin .eql) [71,73] 68 true,
 ⟨(some 75),104,.pick,[.t 68,.t 74,.c (.bool false)],none⟩])
 (.cond (.t 75) (.seq (.region [⟨(some 6),105,.move,[.c (.int .i64 (3))],none⟩])
 (.ret)) (.skip))))))
 (.region [⟨(some 76),106,(.bin .add),[.t 42,.c (.int .i64 (1))],none⟩,
 oT 42 107 .move [76]])))))))
 (.seq (.seq (.region [oT 77 108 (.fieldAddr 3) [5],
 oT 78 109 (.load true 3) [77],
 oT 79 110 (.load true 3) [7],
 oT 80 111 (.call false 131) [78,79],
 oT 81 115 (.un .not) [80]])
 (.cond (.t 81) (.seq (.region [⟨(some 6),116,.move,[.c (.int .i64 (4))],none⟩])
 (.ret)) (.skip)))
 (.seq (.region [⟨(some 6),117,.move,[.c (.int .i64 (0))],none⟩])
 (.ret)))))))))
 [.tmp 6] 0 79
def f399.env:Env:=[(365,f365.C),(36,f36.C),(38,f38.C),(360,f360.C),(131,f131.C)]
def f399.tree (a:aC×(List (aA))×aF):Prop:=f365.ent (fun c1=>(fK c1)∧f36.ent (fun c2=>(fH c2)∧Br (!(fI c2)) (((5:Int)=(dS a))∧True) (f38.ent (fun c6=>(gJ c6)∧Br (!(bL c6)) (((5:Int)=(dS a))∧True) (Br (((aX c1).2) != (0:Int)) (((5:Int)=(dS a))∧True) (Br (!a.1.2.1) (((1:Int)=(dS a))∧True) (f360.ent (fun c16=>(kM c16)∧Br (!(eW c16)) (((2:Int)=(dS a))∧True) (∃ (I21:(Int×Int×Int×Int)→Prop) (μ22:(Int×Int×Int×Int)→Nat),(f399.l0 a I21 ((0:Int),((aX c1).1).1,((aX c1).1).2.1,((aX c1).1).2.2))∧∀ y23:Int×Int×Int×Int,I21 y23→(Br (decide (y23.1 < (a.2.1.length:Int))) (Br (decide ((0:Int)≤y23.1)&&decide (y23.1 < (a.2.1.length:Int))) (Br (!(a.2.2.2.2.2.2.2.1.toList==ByteArray.empty.toList)) (Br (((at_ a.2.1 y23.1).2.2.1).toList==a.1.1.1.toList) (Br (!((((at_ a.2.1 y23.1).1).1).toList==a.2.2.1.toList)) (Br ((((at_ a.2.1 y23.1).1).2.2.2.2.2.1).toList==a.2.2.2.2.2.2.2.1.toList) (((3:Int)=(dS a))∧True) (Let (IntKind.i64.wrap (y23.1+(1:Int))) (fun v36:Int=>f399.l0 a (Dn I21 μ22 y23) (v36,y23.2.1,y23.2.2.1,y23.2.2.2)))) (Let (IntKind.i64.wrap (y23.1+(1:Int))) (fun v44:Int=>f399.l0 a (Dn I21 μ22 y23) (v44,y23.2.1,y23.2.2.1,y23.2.2.2)))) (Let (IntKind.i64.wrap (y23.1+(1:Int))) (fun v52:Int=>f399.l0 a (Dn I21 μ22 y23) (v52,y23.2.1,y23.2.2.1,y23.2.2.2)))) (Let (IntKind.i64.wrap (y23.1+(1:Int))) (fun v60:Int=>f399.l0 a (Dn I21 μ22 y23) (v60,y23.2.1,y23.2.2.1,y23.2.2.2)))) False) (f131.ent (fun c69=>True∧Br (!(cT c69)) (((4:Int)=(dS a))∧True) (((0:Int)=(dS a))∧True)) (a.2.2.2.2.2.1,y23.2))))) (a.1.1.2.2,a.2.2.2.2.2.2.1))))) a.2.2)) a.1.1) (a.1,a.2.1)
def f399.vc (a:aC×(List (aA))×aF):Prop:=(fK (a.1,a.2.1)∧(fH a.1.1∧((¬((fI (a.1.1))=true)→((5:Int)=dS a))∧(¬(¬((fI (a.1.1))=true))→(gJ a.2.2∧((¬((bL (a.2.2))=true)→((5:Int)=dS a))∧(¬(¬((bL (a.2.2))=true))→((¬((aX (a.1,a.2.1)).2)=(0:Int)→((5:Int)=dS a))∧(¬(¬((aX (a.1,a.2.1)).2)=(0:Int))→((¬(a.1.2.1=true)→((1:Int)=dS a))∧(¬(¬(a.1.2.1=true))→(kM (a.1.1.2.2,a.2.2.2.2.2.2.1)∧((¬((eW (a.1.1.2.2,a.2.2.2.2.2.2.1))=true)→((2:Int)=dS a))∧(¬(¬((eW (a.1.1.2.2,a.2.2.2.2.2.2.1))=true))→(∃ (I21:(Int×Int×Int×Int)→Prop) (μ22:(Int×Int×Int×Int)→Nat),I21 ((0:Int),((aX (a.1,a.2.1)).1).1,((aX (a.1,a.2.1)).1).2.1,((aX (a.1,a.2.1)).1).2.2)∧∀ y23:Int×Int×Int×Int,I21 y23→((y23.1 < (a.2.1.length:Int)→((0:Int)≤y23.1∧y23.1 < (a.2.1.length:Int)∧((¬(a.2.2.2.2.2.2.2.1=ByteArray.empty)→((((at_ a.2.1 y23.1).2.2.1)=a.1.1.1→((¬((((at_ a.2.1 y23.1).1).1)=a.2.2.1)→(((((at_ a.2.1 y23.1).1).2.2.2.2.2.1)=a.2.2.2.2.2.2.2.1→((3:Int)=dS a))∧(¬((((at_ a.2.1 y23.1).1).2.2.2.2.2.1)=a.2.2.2.2.2.2.2.1)→(-9223372036854775808≤(y23.1+(1:Int))∧(y23.1+(1:Int))≤9223372036854775807∧(I21 ((y23.1+(1:Int)),y23.2.1,y23.2.2.1,y23.2.2.2)∧μ22 ((y23.1+(1:Int)),y23.2.1,y23.2.2.1,y23.2.2.2) < μ22 y23)))))∧(¬(¬((((at_ a.2.1 y23.1).1).1)=a.2.2.1))→(-9223372036854775808≤(y23.1+(1:Int))∧(y23.1+(1:Int))≤9223372036854775807∧(I21 ((y23.1+(1:Int)),y23.2.1,y23.2.2.1,y23.2.2.2)∧μ22 ((y23.1+(1:Int)),y23.2.1,y23.2.2.1,y23.2.2.2) < μ22 y23)))))∧(¬(((at_ a.2.1 y23.1).2.2.1)=a.1.1.1)→(-9223372036854775808≤(y23.1+(1:Int))∧(y23.1+(1:Int))≤9223372036854775807∧(I21 ((y23.1+(1:Int)),y23.2.1,y23.2.2.1,y23.2.2.2)∧μ22 ((y23.1+(1:Int)),y23.2.1,y23.2.2.1,y23.2.2.2) < μ22 y23)))))∧(¬(¬(a.2.2.2.2.2.2.2.1=ByteArray.empty))→(-9223372036854775808≤(y23.1+(1:Int))∧(y23.1+(1:Int))≤9223372036854775807∧(I21 ((y23.1+(1:Int)),y23.2.1,y23.2.2.1,y23.2.2.2)∧μ22 ((y23.1+(1:Int)),y23.2.1,y23.2.2.1,y23.2.2.2) < μ22 y23))))))∧(¬(y23.1 < (a.2.1.length:Int))→((¬((cT (a.2.2.2.2.2.1,y23.2))=true)→((4:Int)=dS a))∧(¬(¬((cT (a.2.2.2.2.2.1,y23.2))=true))→((0:Int)=dS a))))))))))))))))))))
set_option maxRecDepth 100000 in
set_option maxHeartbeats 2000000 in
theorem f399.of (a:aC×(List (aA))×aF) (h:f399.vc a):f399.tree a:=(f365.ei ⟨h.1,(f36.ei ⟨h.2.1,br h.2.2 (Cnd.not Cnd.b) (fun h3 k92=>⟨k92,trivial⟩) (fun h4 k93=>(f38.ei ⟨k93.1,br k93.2 (Cnd.not Cnd.b) (fun h7 k89=>⟨k89,trivial⟩) (fun h8 k90=>br k90 Cnd.ne (fun h10 k87=>⟨k87,trivial⟩) (fun h11 k88=>br k88 (Cnd.not Cnd.b) (fun h13 k85=>⟨k85,trivial⟩) (fun h14 k86=>(f360.ei ⟨k86.1,br k86.2 (Cnd.not Cnd.b) (fun h17 k82=>⟨k82,trivial⟩) (fun h18 k83=>Exists.elim k83 (fun I21 h79_=>Exists.elim h79_ (fun μ22 h79=>⟨I21,μ22,(f399.l0i a h79.1),fun y23 h81=>br (h79.2 y23 h81) Cnd.dec (fun h24 k77=>chk k77.2.2 Cnd.ix ⟨k77.1,k77.2.1⟩ (fun h26 k68=>br k68 (Cnd.not Cnd.seq) (fun h27 k66=>br k66 Cnd.seq (fun h29 k58=>br k58 (Cnd.not Cnd.seq) (fun h31 k50=>br k50 Cnd.seq (fun h33 k42=>⟨k42,trivial⟩) (fun h34 k43=>wrapK.i64 k43 (fun h39 h40 k41=>(f399.l0i a k41)))) (fun h32 k51=>wrapK.i64 k51 (fun h47 h48 k49=>(f399.l0i a k49)))) (fun h30 k59=>wrapK.i64 k59 (fun h55 h56 k57=>(f399.l0i a k57)))) (fun h28 k67=>wrapK.i64 k67 (fun h63 h64 k65=>(f399.l0i a k65))))) (fun h25 k78=>(f131.ei ⟨trivial,br k78 (Cnd.not Cnd.b) (fun h70 k74=>⟨k74,trivial⟩) (fun h71 k75=>⟨k75,trivial⟩)⟩))⟩)))⟩))))⟩))⟩)⟩)
theorem f399.eq (a:aC×(List (aA))×aF):(f399.af a).gives f399.env (f399.args a) (f399.blks a) (f399.res a) (f399.blks' a)=f399.tree a:=by kernel_rfl
end Go.Abs

-- interregnum/interregnumref11.Texts
namespace Go.Abs
open Go
def f150.ent (K:((List (ByteArray))×(List (ByteArray)))→Prop) (t:(List (ByteArray))×(List (ByteArray))):Prop:=∃ c:(List (ByteArray))×(List (ByteArray)),SlQ t.1.length c.1.length (gl bN t.1) (gl bN c.1) (SlQ t.2.length c.2.length (gl bN t.2) (gl bN c.2) (K c))
theorem f150.ei {K:((List (ByteArray))×(List (ByteArray)))→Prop} {t:(List (ByteArray))×(List (ByteArray))} (h:K t):f150.ent K t:=⟨t,slQ (Rds.self (enc:=bN)) (slQ (Rds.self (enc:=bN)) (h))⟩
def f150.args (a:(List (ByteArray))×(List (ByteArray))):List D:=[.slice .ro 1 a.1.length (gl bN a.1),.slice .ro 1 a.2.length (gl bN a.2)]
def f150.blks (a:(List (ByteArray))×(List (ByteArray))):List (List D):=[]
def f150.res (a:(List (ByteArray))×(List (ByteArray))):List D:=[.bool (gE a)]
def f150.blks' (a:(List (ByteArray))×(List (ByteArray))):List (List D):=[]
def f150.C:aM:=FnC f150.args f150.blks (fun a=>jN a) f150.res f150.blks'
end Go.Abs

/- interregnum/interregnumref11.Texts -/
namespace Go.Abs
open Go
set_option linter.unusedVariables false
def f150.S0 (a:(List (ByteArray))×(List (ByteArray))) (x:Int):Tm:=⟨[.slice .ro 1 a.1.length (gl bN a.1),.slice .ro 1 a.2.length (gl bN a.2),.dead,.dead,.dead,.dead,.dead,.dead,.dead,.dead,.dead,.dead,.int .i64 (a.1.length:Int),.int .i64 x,.dead,.dead,.dead,.dead,.dead,.dead,.dead,.dead,.dead,.dead,.dead,.dead],[],[]⟩
def f150.kills (a:(List (ByteArray))×(List (ByteArray))):List cB:=[.tell Int (f150.S0 a)]
def f150.cuts (a:(List (ByteArray))×(List (ByteArray))):List (Nat×Σ β:Type,β→Tm):=[]
def f150.af (a:(List (ByteArray))×(List (ByteArray))):AF:=AF.mk (.seq (.region [⟨(some 4),0,.move,[.c (.bool false)],none⟩])
 (.seq (.seq (.region [oT 6 1 .move [0],
 oT 7 2 (.len false) [6],
 oT 8 3 .move [1],
 oT 9 4 (.len false) [8],
 oT 10 5 (.bin .neq) [7,9]])
 (.cond (.t 10) (.seq (.region [⟨(some 4),6,.move,[.c (.bool false)],none⟩])
 (.ret)) (.skip)))
 (.seq (.seq (.region [oT 11 7 .move [0],
 oT 12 8 (.len false) [11],
 ⟨(some 13),9,.move,[.c (.int .i64 (0))],none⟩])
 (.block 0 (.loopT Int (f150.S0 a) 10 25 (.seq (.region [oT 14 10 (.bin .lss) [13,12]])
 (.seq (.cond (.t 14) (.skip) (.exit 0))
 (.seq (.block 1 (.seq (.region [oT 15 11 .move [13],
 oT 5 12 .move [15]])
 (.seq (.region [oT 16 13 .move [0],
 oT 17 14 .move [5],
 oT 18 15 (.indexAddr 1 none) [16,17],
 oT 19 16 (.load false 1) [18],
 oT 20 17 .move [1],
 oT 21 18 .move [5],
 oT 22 19 (.indexAddr 1 none) [20,21],
 oT 23 20 (.load false 1) [22],
 oT 24 21 (.bin .neq) [19,23]])
 (.cond (.t 24) (.seq (.region [⟨(some 4),22,.move,[.c (.bool false)],none⟩])
 (.ret)) (.skip)))))
 (.region [⟨(some 25),23,(.bin .add),[.t 13,.c (.int .i64 (1))],none⟩,
 oT 13 24 .move [25]])))))))
 (.seq (.region [⟨(some 4),25,.move,[.c (.bool true)],none⟩])
 (.ret)))))
 [.tmp 4] 0 24
def f150.env:Env:=[]
def f150.tree (a:(List (ByteArray))×(List (ByteArray))):Prop:=Br ((a.1.length:Int) != (a.2.length:Int)) ((false=(gE a))∧True) (∃ (I5:Int→Prop) (μ6:Int→Nat),(∃ x4:Int,SlS bN a.1 (SlS bN a.2 (((a.1.length:Int)=(a.1.length:Int))∧((0:Int)=x4)∧I5 x4)))∧∀ y7:Int,I5 y7→(Br (decide (y7 < (a.1.length:Int))) (Br (decide ((0:Int)≤y7)&&decide (y7 < (a.1.length:Int))) (Br (decide ((0:Int)≤y7)&&decide (y7 < (a.2.length:Int))) (Br (!((at_ a.1 y7).toList==(at_ a.2 y7).toList)) ((false=(gE a))∧True) (Let (IntKind.i64.wrap (y7+(1:Int))) (fun v15:Int=>∃ x16:Int,SlS bN a.1 (SlS bN a.2 (((a.1.length:Int)=(a.1.length:Int))∧(v15=x16)∧I5 x16∧μ6 x16 < μ6 y7))))) False) False) ((true=(gE a))∧True)))
def f150.vc (a:(List (ByteArray))×(List (ByteArray))):Prop:=((¬(a.1.length:Int)=(a.2.length:Int)→(false=gE a))∧(¬(¬(a.1.length:Int)=(a.2.length:Int))→(∃ (I5:Int→Prop) (μ6:Int→Nat),I5 (0:Int)∧∀ y7:Int,I5 y7→((y7 < (a.1.length:Int)→((0:Int)≤y7∧y7 < (a.1.length:Int)∧((0:Int)≤y7∧y7 < (a.2.length:Int)∧((¬((at_ a.1 y7)=(at_ a.2 y7))→(false=gE a))∧(¬(¬((at_ a.1 y7)=(at_ a.2 y7)))→(-9223372036854775808≤(y7+(1:Int))∧(y7+(1:Int))≤9223372036854775807∧(I5 (y7+(1:Int))∧μ6 (y7+(1:Int)) < μ6 y7)))))))∧(¬(y7 < (a.1.length:Int))→(true=gE a))))))
set_option maxRecDepth 100000 in
set_option maxHeartbeats 2000000 in
theorem f150.of (a:(List (ByteArray))×(List (ByteArray))) (h:f150.vc a):f150.tree a:=br h Cnd.ne (fun h1 k31=>⟨k31,trivial⟩) (fun h2 k32=>Exists.elim k32 (fun I5 h28_=>Exists.elim h28_ (fun μ6 h28=>⟨I5,μ6,⟨(0:Int),SlS.mk  (SlS.mk  (⟨rfl,⟨rfl,h28.1⟩⟩))⟩,fun y7 h30=>br (h28.2 y7 h30) Cnd.dec (fun h8 k26=>chk k26.2.2 Cnd.ix ⟨k26.1,k26.2.1⟩ (fun h10 k24=>chk k24.2.2 Cnd.ix ⟨k24.1,k24.2.1⟩ (fun h11 k23=>br k23 (Cnd.not Cnd.seq) (fun h12 k21=>⟨k21,trivial⟩) (fun h13 k22=>wrapK.i64 k22 (fun h18 h19 k20=>⟨(y7+(1:Int)),SlS.mk  (SlS.mk  (⟨rfl,⟨rfl,k20⟩⟩))⟩))))) (fun h9 k27=>⟨k27,trivial⟩)⟩)))
theorem f150.eq (a:(List (ByteArray))×(List (ByteArray))):(f150.af a).gives f150.env (f150.args a) (f150.blks a) (f150.res a) (f150.blks' a)=f150.tree a:=by kernel_rfl
end Go.Abs

/- The machine from which jobs go,and the document's answers: what the code asks is so. -/
namespace Go.Abs
open Go

theorem f150.ok (a:List ByteArray×List ByteArray) (h:jN a):f150.vc a:=by
 obtain ⟨l,m⟩:=a
 have h1:l.length≤1048576:=h.1
 refine ⟨fun c=>?_,fun c=>?_⟩
 ·unfold gE
  refine (decide_eq_false fun e=>c ?_).symm
  simp only at e ⊢
  rw [e]
 ·have hl:l.length=m.length:=by
   have:=Classical.not_not.1 c
   simp only at this
   omega
  refine ⟨fun y=>0≤y∧y≤(l.length:Int)∧∀ k,k < y.toNat→l.getD k default=m.getD k default,fun y=>l.length - y.toNat,⟨by omega,by omega,fun k hk=>by simp at hk⟩,fun y hy=>?_⟩
  obtain ⟨g0,g1,g2⟩:=hy
  simp only
  refine ⟨fun hlt=>⟨g0,hlt,g0,by omega,fun c=>?_,fun c=>⟨by omega,by omega,⟨by omega,by omega,fun k hk=>?_⟩,by omega⟩⟩,fun hge=>?_⟩
  ·unfold gE
   refine (decide_eq_false fun e=>c ?_).symm
   simp only at e
   rw [e]
  ·by_cases he:k=y.toNat
   ·subst he; exact Classical.not_not.1 c
   ·exact g2 k (by omega)
  ·unfold gE
   exact (decide_eq_true (f4 hl fun k hk=>g2 k (by omega))).symm

theorem f252.ok (a:dF) (h:o5 a):f252.vc a:=by
 have h:a.2.length≤1048576:=h
 refine ⟨fun c=>?_,fun c=>⟨by omega,by omega,by omega,by omega,?_⟩⟩
 ·unfold fJ
  rw [if_pos (by omega)]
 ·unfold fJ
  rw [if_neg (by omega)]

theorem f245.ok (a:dF×dF) (h:mU a):f245.vc a:=⟨h.1,h.2,by unfold kJ; simp,rfl⟩

theorem rH (x:dF):∀ (l:List dF) (m:dF),gN m (l++[x])=if gQ (x,gN m l) < 0 then x else gN m l
 | [],m=>rfl
 | y::l,m=>by
  rw [List.cons_append,gN,gN]
  exact rH x l _

theorem sG (x:dF) {l:List dF} (h:l≠[]):kZ (l++[x])=if gQ (x,kZ l) < 0 then x else kZ l:=by
 cases l with
 | nil=>exact absurd rfl h
 | cons y l=>exact rH x l y

theorem jQ {α:Type} [Inhabited α] {l:List α} {i:Nat} (h:i < l.length):l.take (i+1)=l.take i++[l.getD i default]:=by
 rw [eJ h,List.take_succ_eq_append_getElem h]

theorem f244.ok (a:List dF) (h:qW a):f244.vc a:=by
 obtain ⟨h1,h2,h3⟩:=h
 have h2:a.length≤1048576:=h2
 refine ⟨fun c=>by omega,fun _=>⟨by omega,?_⟩⟩
 refine ⟨fun y=>1≤y.1∧y.1≤(a.length:Int)∧y.2=kZ (a.take y.1.toNat)∧y.2∈a,fun y=>a.length - y.1.toNat,⟨by simp only; omega,by simp only; omega,?_,?_⟩,fun y hy=>?_⟩
 ·cases a with
  | nil=>simp at h1
  | cons x l=>rfl
 ·exact eF (l:=a) (i:=0) h1
 ·obtain ⟨i,o⟩:=y
  obtain ⟨g1,g2,g3,g4⟩:=hy
  simp only at g1 g2 g3 g4 ⊢
  have hne:a.take i.toNat≠[]:=fun e=>by
   have:=congrArg List.length e
   rw [List.length_take,List.length_nil] at this
   omega
  have step:i < (a.length:Int)→kZ (a.take (i+1).toNat)=if gQ (at_ a i,o) < 0 then at_ a i else o:=fun hlt=>by
   rw [show (i+1).toNat=i.toNat+1 from by omega,jQ (by omega),sG _ hne,← g3]
   rfl
  refine ⟨fun hlt=>⟨by omega,hlt,⟨h3 _ (eF (l:=a) (i:=i.toNat) (by omega)),h3 _ g4⟩,fun c=>⟨by omega,by omega,by omega,by omega,⟨by omega,by omega,?_,?_⟩,by omega⟩,fun c=>⟨by omega,by omega,⟨by omega,by omega,?_,g4⟩,by omega⟩⟩,fun hge=>?_⟩
  ·rw [step hlt,if_pos c]
  ·exact eF (l:=a) (by omega)
  ·rw [step hlt,if_neg c]
  ·rw [g3,List.take_of_length_le (by omega)]

theorem qZ (a:bM×List bQ×bO):(bB a).1.length≤a.2.1.length:=by
 have h2:=qB a
 unfold bB
 split
 ·simp
 ·split
  ·simp
  ·split
   ·simp only [List.length_take]
    omega
   ·simp

theorem mR (l m:List bM) (b:List bQ×bO):cG (l++m,b)=cG (l,b)++cG (m,b):=by
 unfold cG
 rw [List.filter_append,List.map_append]

theorem mE (m:bM) (b:List bQ×bO):cG ([m],b)=if (bB (m,b)).2=true then [(m.1.1,(bB (m,b)).1)] else []:=by
 unfold cG
 by_cases h:(bB (m,b)).2=true
 ·rw [if_pos h,List.filter_cons_of_pos (p:=fun x:bM=>(bB (x,([m],b).2)).2) h]
  rfl
 ·rw [if_neg h,List.filter_cons_of_neg (p:=fun x:bM=>(bB (x,([m],b).2)).2) h]
  rfl

theorem sK {a:List bM×List bQ×bO} (h:cG a≠[]):bA a=((kZ (cG a)).1,fC (kZ (cG a)).2,true):=by
 unfold bA
 cases hh:cG a with
 | nil=>exact absurd hh h
 | cons x l=>rfl

theorem qF {a:List bM×List bQ×bO} (h:L20 a.2.1):∀ o∈cG a,L20 o.2:=by
 intro o ho
 obtain ⟨m,_,rfl⟩:=List.mem_map.1 ho
 exact Nat.le_trans (qZ _) h

theorem f227.ok (a:List bM×List bQ×bO) (h:fD a):f227.vc a:=by
 obtain ⟨l,jobs,t⟩:=a
 obtain ⟨h1,h2⟩:=h
 have h1:l.length≤1048576:=h1
 refine ⟨fun y=>0≤y.2∧y.2≤(l.length:Int)∧y.1=cG (l.take y.2.toNat,jobs,t)∧y.1.length≤y.2.toNat,fun y=>l.length - y.2.toNat,⟨by simp only; omega,by simp only; omega,rfl,Nat.le_refl _⟩,fun y hy=>?_⟩
 obtain ⟨out,i⟩:=y
 obtain ⟨g0,g1,g2,g3⟩:=hy
 simp only at g0 g1 g2 g3 ⊢
 have step:i < (l.length:Int)→cG (l.take (i+1).toNat,jobs,t)=out++if (bB (at_ l i,jobs,t)).2=true then [((at_ l i).1.1,(bB (at_ l i,jobs,t)).1)] else []:=fun hlt=>by
  rw [show (i+1).toNat=i.toNat+1 from by omega,jQ (by omega),mR,mE,← g2]
  rfl
 refine ⟨fun hlt=>⟨g0,hlt,h2 _ (eF (l:=l) (i:=i.toNat) (by omega)),fun c=>⟨by omega,by omega,by omega,⟨by omega,by omega,?_,?_⟩,by omega⟩,fun c=>⟨by omega,by omega,⟨by omega,by omega,?_,by omega⟩,by omega⟩⟩,fun hge=>?_⟩
 ·rw [step hlt,if_pos c]
 ·rw [List.length_append,List.length_singleton]
  omega
 ·rw [step hlt,if_neg c,List.append_nil]
 ·rw [List.take_of_length_le (by omega)] at g2
  subst g2
  refine ⟨fun c=>?_,fun c=>?_⟩
  ·have:cG (l,jobs,t)=[]:=List.eq_nil_of_length_eq_zero (by omega)
   unfold bA
   rw [this]
  ·have hne:cG (l,jobs,t)≠[]:=fun e=>by rw [e] at c; exact c rfl
   have hj:L20 jobs:=by
    cases l with
    | nil=>exact absurd rfl hne
    | cons m l=>exact (h2 m (by simp)).1
   have hpos:0 < (cG (l,jobs,t)).length:=List.length_pos_iff.2 hne
   have small:=qF (a:=(l,jobs,t)) hj
   refine ⟨⟨hpos,by unfold L20; omega,small⟩,small _ ?_,(sK hne).symm⟩
   exact minV_mem hne
where
 minV_mem {l:List dF} (h:l≠[]):kZ l∈l:=by
  cases l with
  | nil=>exact absurd rfl h
  | cons x l=>exact minFrom_mem l x
 minFrom_mem:∀ (l:List dF) (m:dF),gN m l∈m::l
  | [],m=>by simp [gN]
  | x::l,m=>by
   rw [gN]
   have:=minFrom_mem l (if gQ (x,m) < 0 then x else m)
   rcases List.mem_cons.1 this with h | h
   ·rw [h]
    split <;> simp
   ·simp [h]

theorem f403.ok (a:bQ×bQ) (_:True):f403.vc a:=by
 obtain ⟨x,y⟩:=a
 refine ⟨fun c=>?_,fun c=>⟨fun c2=>?_,fun c2=>?_⟩⟩
 ·exact ((tX x y).2 (.inl c)).symm
 ·unfold jE
  simp only at c c2 ⊢
  by_cases h:y.2.1 < x.2.1
  ·rw [decide_eq_true h]
   exact ((tX x y).2 (.inr ⟨c2,h⟩)).symm
  ·rw [decide_eq_false h]
   exact ((oZ x y).2 (by omega)).symm
 ·unfold jE
  simp only at c c2 ⊢
  exact ((oZ x y).2 (by omega)).symm

theorem sF (n:Nat):gS (n+1)=gS n++[(n:Int)]:=by
 unfold gS
 rw [List.range_succ,List.map_append]
 rfl

theorem uI {n:Nat} {i:Int}:i∈gS n↔0≤i∧i < n:=by
 unfold gS
 rw [List.mem_map]
 constructor
 ·rintro ⟨k,hk,rfl⟩
  have:=List.mem_range.1 hk
  simp only [Int.ofNat_eq_natCast]
  omega
 ·rintro ⟨h1,h2⟩
  exact ⟨i.toNat,List.mem_range.2 (by omega),by simp only [Int.ofNat_eq_natCast]; omega⟩

theorem yI {α:Type} [Inhabited α] (l:List α):(gS l.length).map (at_ l)=l:=by
 unfold gS
 rw [List.map_map]
 refine List.ext_getElem (by simp) fun i h1 h2=>?_
 simp only [List.getElem_map,List.getElem_range,Function.comp]
 exact eJ h2

theorem yG (jobs:List bQ):Weak (ltP jobs):=⟨fun h=>iG.asym h,fun h1 h2=>iG.le h1 h2⟩

theorem aA2 {α β:Type} (f:α→β) (lt:β→β→Bool) (x:α):∀ l,(rQ (fun i k=>lt (f i) (f k)) x l).map f=rQ lt (f x) (l.map f)
 | []=>rfl
 | y::l=>by
  simp only [rQ,List.map_cons]
  split
  ·rw [List.map_cons,aA2 f lt x l]
  ·rfl
theorem xM {α β:Type} (f:α→β) (lt:β→β→Bool):∀ l,(bK (fun i k=>lt (f i) (f k)) l).map f=bK lt (l.map f)
 | []=>rfl
 | x::l=>by
  simp only [bK,List.map_cons]
  rw [aA2,xM f lt l]

theorem oQ (a:bM×List bQ×bO):(fW a).map (at_ a.2.1)=dZ a:=by
 have h:(fW a).map (at_ a.2.1)=bK ltW (((gS a.2.1.length).filter (lO a)).map (at_ a.2.1)):=xM (at_ a.2.1) ltW _
 rw [h]
 unfold dZ pD
 congr 1
 conv=>rhs; rw [← yI a.2.1]
 rw [List.filter_map]
 rfl

theorem w7 {a:bM×List bQ×bO} {i:Int} (h:i∈fW a):0≤i∧i < (a.2.1.length:Int)∧(at_ a.2.1 i).2.2.1=a.1.1.1:=by
 have:=(lH (yG _)).1 h
 obtain ⟨h1,h2⟩:=List.mem_filter.1 this
 have h3:=uI.1 h1
 exact ⟨h3.1,h3.2,(of_decide_eq_true h2).1⟩

theorem aEM (a:bM×List bQ×bO):(fW a).length=(dZ a).length:=by
 rw [← oQ,List.length_map]

theorem aET {lt:Int→Int→Bool} (w:Weak lt) {L:List Int} {x:Int} {k:Nat} (hk:k≤(bK lt L).length) (h1:∀ i,k≤i→i < (bK lt L).length→lt x ((bK lt L).getD i default)=true) (h2:0 < k→lt x ((bK lt L).getD (k - 1) default)=false) :
  (bK lt L).take k++[x]++(bK lt L).drop k=bK lt (L++[x]):=by
 have sd:=lI w L
 have fe:=i5 w L
 generalize bK lt L=S at *
 have hB:∀ b∈S.drop k,lt x b=true:=by
  intro b hb
  obtain ⟨i,hi,rfl⟩:=List.mem_iff_getElem.1 hb
  rw [List.length_drop] at hi
  have:=h1 (k+i) (by omega) (by omega)
  rw [eJ (by omega)] at this
  rw [List.getElem_drop]
  exact this
 have hA:∀ a∈S.take k,lt x a=false:=by
  intro a ha
  obtain ⟨i,hi,rfl⟩:=List.mem_iff_getElem.1 ha
  rw [List.length_take] at hi
  have h3:=h2 (by omega)
  rw [eJ (by omega)] at h3
  rw [List.getElem_take]
  by_cases he:i=k - 1
  ·subst he; exact h3
  ·exact w.le (List.pairwise_iff_getElem.1 sd i (k - 1) (by omega) (by omega) (by omega)) h3
 have sAB:=sd
 rw [← List.take_append_drop k S] at sAB
 obtain ⟨sA,sB,sX⟩:=List.pairwise_append.1 sAB
 refine rB w ?_ ?_
 ·rw [List.append_assoc]
  refine List.pairwise_append.2 ⟨sA,List.pairwise_append.2 ⟨List.pairwise_singleton _ _,sB,fun a ha b hb=>?_⟩,fun a ha b hb=>?_⟩
  ·rw [List.mem_singleton.1 ha]
   exact w.asym (hB b hb)
  ·rcases List.mem_append.1 hb with hb | hb
   ·rw [List.mem_singleton.1 hb]
    exact hA a ha
   ·exact sX a ha b hb
 ·rw [List.append_assoc]
  refine FE.trans (FE.app (FE.refl _) (FE.swap w (a:=S.drop k) (b:=[x]) (fun b hb y hy=>by rw [List.mem_singleton.1 hy]; exact hB b hb)).symm) ?_
  rw [← List.append_assoc,List.take_append_drop]
  exact FE.app fe (FE.refl _)

theorem f401.ok (a:bM×List bQ×bO) (h:i7 a):f401.vc a:=by
 obtain ⟨m,l,t⟩:=a
 have h:l.length≤1048576:=h
 have stepN:∀ i:Int,0≤i→¬lO (m,l,t) i=true→(gS (i+1).toNat).filter (lO (m,l,t))=(gS i.toNat).filter (lO (m,l,t)):=fun i h0 c=>by
  rw [show (i+1).toNat=i.toNat+1 from by omega,sF,List.filter_append,show ((i.toNat:Nat):Int)=i from by omega,List.filter_cons_of_neg c]
  exact List.append_nil _
 have stepY:∀ i:Int,0≤i→lO (m,l,t) i=true→(gS (i+1).toNat).filter (lO (m,l,t))=(gS i.toNat).filter (lO (m,l,t))++[i]:=fun i h0 c=>by
  rw [show (i+1).toNat=i.toNat+1 from by omega,sF,List.filter_append,show ((i.toNat:Nat):Int)=i from by omega,List.filter_cons_of_pos c]
  rfl
 refine ⟨fun y=>0≤y.2∧y.2≤(l.length:Int)∧y.1=bK (ltP l) ((gS y.2.toNat).filter (lO (m,l,t))),fun y=>l.length - y.2.toNat,⟨by simp only; omega,by simp only; omega,rfl⟩,fun y hy=>?_⟩
 obtain ⟨out,i⟩:=y
 obtain ⟨g0,g1,g2⟩:=hy
 simp only at g0 g1 g2 ⊢
 have hout:out.length≤i.toNat:=by
  rw [g2,dD]
  refine Nat.le_trans (List.length_filter_le _ _) ?_
  unfold gS
  simp
 have hin:∀ k,k < out.length→0≤out.getD k default∧out.getD k default < (l.length:Int):=fun k hk=>by
  have hm:out.getD k default∈bK (ltP l) ((gS i.toNat).filter (lO (m,l,t))):=g2 ▸ eF hk
  have:=(lH (yG l)).1 hm
  have:=uI.1 (List.mem_filter.1 this).1
  omega
 refine ⟨fun hlt=>⟨g0,hlt,fun c=>⟨by omega,by omega,⟨by omega,by omega,?_⟩,by omega⟩,fun c=>⟨g0,hlt,fun c2=>⟨by omega,by omega,⟨by omega,by omega,?_⟩,by omega⟩,fun c2=>?_⟩⟩,fun hge=>?_⟩
 ·rw [stepN i g0 (fun hh=>c (of_decide_eq_true hh).1)]
  exact g2
 ·rw [stepN i g0 (fun hh=>by have:=(of_decide_eq_true hh).2; simp only at this; omega)]
  exact g2
 ·have hq:lO (m,l,t) i=true:=decide_eq_true ⟨Classical.not_not.1 c,by simp only; omega⟩
  have fin:∀ k:Int,0≤k→k≤(out.length:Int)→(∀ j,k.toNat≤j→j < out.length→ltP l i (out.getD j default)=true)→(0 < k→ltP l i (out.getD (k.toNat - 1) default)=false) →
    ((([]++gK out 0 k)++[i])++gK out k (out.length:Int))=bK (ltP l) ((gS (i+1).toNat).filter (lO (m,l,t))):=fun k e1 e2 e3 e4=>by
   rw [stepY i g0 hq]
   have:=aET (yG l) (L:=(gS i.toNat).filter (lO (m,l,t))) (x:=i) (k:=k.toNat) (by rw [← g2]; omega) (by rw [← g2]; exact e3) (by rw [← g2]; exact fun hh=>e4 (by omega))
   rw [← this,← g2]
   unfold gK
   simp only [List.nil_append,Int.toNat_zero,List.drop_zero]
   rw [show (k - 0).toNat=k.toNat from by omega,List.take_of_length_le (l:=out.drop k.toNat) (by rw [List.length_drop]; omega)]
  refine ⟨fun z=>z.1=out∧z.2.1=i∧z.2.2.2=i∧0≤z.2.2.1∧z.2.2.1≤(out.length:Int)∧∀ j,z.2.2.1.toNat≤j→j < out.length→ltP l i (out.getD j default)=true,fun z=>z.2.2.1.toNat,⟨rfl,rfl,rfl,by simp only; omega,by simp only; omega,fun j h1 h2=>by simp only at h1; omega⟩,fun z hz=>?_⟩
  obtain ⟨out',i',k,i2⟩:=z
  obtain ⟨e1,e2,e3,e4,e5,e6⟩:=hz
  simp only at e1 e2 e3 e4 e5 e6 ⊢
  subst e1; subst e2; subst e3
  refine ⟨fun hk=>⟨by omega,by omega,by omega,by omega,by omega,by omega,?_,?_,fun ha=>⟨by omega,by omega,⟨by trivial,by trivial,by trivial,by omega,by omega,fun j h1 h2=>?_⟩,by omega⟩,fun ha=>⟨by omega,by omega,by omega,by omega,by omega,by omega,by omega,by omega,by omega,⟨by omega,by omega,fin k e4 e5 e6 fun _=>?_⟩,by omega⟩⟩,fun hk=>⟨by omega,by omega,by omega,by omega,by omega,by omega,by omega,by omega,by omega,⟨by omega,by omega,fin k e4 e5 e6 fun hh=>by omega⟩,by omega⟩⟩
  ·exact (hin (k - 1).toNat (by omega)).1
  ·exact (hin (k - 1).toNat (by omega)).2
  ·by_cases he:j=(k - 1).toNat
   ·subst he
    exact ha
   ·exact e6 j (by omega) h2
  ·have:=Bool.eq_false_iff.2 ha
   rw [show k.toNat - 1=(k - 1).toNat from by omega]
   exact this
 ·rw [g2,show i.toNat=l.length from by omega]
  rfl

theorem f398.ok (a:List bQ×List Int) (h:l9 a):f398.vc a:=by
 obtain ⟨l,p⟩:=a
 obtain ⟨h1,h2,h3⟩:=h
 have h2:p.length≤1048576:=h2
 refine ⟨fun y=>0≤y.2∧y.2≤(p.length:Int)∧y.1++jB (l,p.drop y.2.toNat)=jB (l,p)∧y.1.length≤y.2.toNat,fun y=>p.length - y.2.toNat,⟨by simp only; omega,by simp only; omega,rfl,Nat.le_refl _⟩,fun y hy=>?_⟩
 obtain ⟨out,i⟩:=y
 obtain ⟨g0,g1,g2,g3⟩:=hy
 simp only at g0 g1 g2 g3 ⊢
 have hin:i < (p.length:Int)→0≤at_ p i∧at_ p i < (l.length:Int):=fun hlt=>h3 _ (eF (by simp only; omega))
 refine ⟨fun hlt=>⟨g0,hlt,(hin hlt).1,(hin hlt).2,by omega,by omega,by omega,⟨by omega,by omega,?_,?_⟩,by omega⟩,fun hge=>?_⟩
 ·rw [← g2,iU g0 hlt,List.append_assoc]
  rfl
 ·rw [List.length_append,List.length_singleton]
  omega
 ·rw [List.drop_of_length_le (by omega)] at g2
  rw [← g2]
  exact (List.append_nil _).symm

theorem aA5 {m:bM} {jobs:List bQ} {t:bO}:(jB (jobs,(aK (m,jobs,t)).1),(aK (m,jobs,t)).2)=cN (m,jobs,t):=by
 unfold aK cN bB
 simp only
 split
 ·rfl
 ·split
  ·rfl
  ·cases goK t.2.2.2.1 (aX (m,jobs)).1 (dZ (m,jobs,t)) with
   | some k =>
    unfold jB fC
    simp only
    rw [← oQ (m,jobs,t)]
    simp only [List.map_take,List.map_map]
    rfl
   | none=>rfl

theorem xR {m:bM} {jobs:List bQ} {t:bO}:∀ i∈(aK (m,jobs,t)).1,0≤i∧i < (jobs.length:Int):=by
 intro i hi
 unfold aK at hi
 simp only at hi
 split at hi
 ·simp at hi
 ·split at hi
  ·simp at hi
  ·split at hi
   ·have:=w7 (List.mem_of_mem_take hi)
    exact ⟨this.1,this.2.1⟩
   ·simp at hi

theorem vD {m:bM} {jobs:List bQ} {t:bO}:(aK (m,jobs,t)).1.map (at_ jobs)=(bB (m,jobs,t)).1∧(aK (m,jobs,t)).2=(bB (m,jobs,t)).2:=by
 unfold aK bB
 simp only
 split
 ·exact ⟨rfl,rfl⟩
 ·split
  ·exact ⟨rfl,rfl⟩
  ·cases goK t.2.2.2.1 (aX (m,jobs)).1 (dZ (m,jobs,t)) with
   | some k =>
    simp only
    rw [← oQ (m,jobs,t)]
    simp only [List.map_take]
    exact ⟨trivial,trivial⟩
   | none=>exact ⟨rfl,rfl⟩

theorem f388.ok (a:bM×List bQ×bO) (h:bY a):f388.vc a:=by
 obtain ⟨m,jobs,t⟩:=a
 refine ⟨h,⟨h.1,?_,xR⟩,aA5⟩
 have h1:jobs.length≤1048576:=h.1
 have e:=congrArg List.length (vD (m:=m) (jobs:=jobs) (t:=t)).1
 rw [List.length_map] at e
 have h2:=qZ (m,jobs,t)
 simp only at h2
 show (aK (m,jobs,t)).1.length≤1048576
 omega

theorem f402.ok (a:List bQ×List Int) (h:jI a):f402.vc a:=by
 obtain ⟨l,ns⟩:=a
 have h1:l.length≤1048576:=h.1
 have h2:ns.length≤1048576:=h.2
 have step:∀ i:Int,0≤i→((gS (i+1).toNat).filter fun i=>!(ns.any fun k=>decide (k=i))).map (at_ l)=((gS i.toNat).filter fun i=>!(ns.any fun k=>decide (k=i))).map (at_ l)++if (ns.any fun k=>decide (k=i))=true then [] else [at_ l i]:=fun i h0=>by
  rw [show (i+1).toNat=i.toNat+1 from by omega,sF,List.filter_append,List.map_append,show ((i.toNat:Nat):Int)=i from by omega]
  congr 1
  by_cases hc:(ns.any fun k=>decide (k=i))=true
  ·rw [if_pos hc,List.filter_cons_of_neg (by rw [hc]; simp)]
   rfl
  ·rw [if_neg hc,List.filter_cons_of_pos (by rw [Bool.eq_false_iff.2 hc]; rfl)]
   rfl
 refine ⟨fun y=>0≤y.2∧y.2≤(l.length:Int)∧y.1=((gS y.2.toNat).filter fun i=>!(ns.any fun k=>decide (k=i))).map (at_ l)∧y.1.length≤y.2.toNat,fun y=>l.length - y.2.toNat,⟨by simp only; omega,by simp only; omega,rfl,Nat.le_refl _⟩,fun y hy=>?_⟩
 obtain ⟨out,i⟩:=y
 obtain ⟨g0,g1,g2,g3⟩:=hy
 simp only at g0 g1 g2 g3 ⊢
 refine ⟨fun hlt=>?_,fun hge=>?_⟩
 ·refine ⟨fun z=>z.1=out∧z.2.1=i∧z.2.2.2.1=i∧0≤z.2.2.2.2∧z.2.2.2.2≤ns.length∧(z.2.2.1=true↔∃ k,k < z.2.2.2.2.toNat∧ns.getD k default=i),fun z=>ns.length - z.2.2.2.2.toNat,⟨rfl,rfl,rfl,by simp only; omega,by simp only; omega,by simp⟩,fun z hz=>?_⟩
  obtain ⟨out',i',f,i2,k⟩:=z
  obtain ⟨e1,e2,e3,e4,e5,e6⟩:=hz
  simp only at e1 e2 e3 e4 e5 e6 ⊢
  subst e1; subst e2; subst e3
  refine ⟨fun c=>⟨fun cf=>⟨by omega,by omega,⟨by trivial,by trivial,by trivial,by omega,by omega,?_⟩,by omega⟩,fun cf=>⟨by omega,by omega,by omega,by omega,⟨by trivial,by trivial,by trivial,by omega,by omega,?_⟩,by omega⟩⟩,fun c=>?_⟩
  ·obtain ⟨q,hq1,hq2⟩:=e6.1 cf
   exact ⟨fun _=>⟨q,by omega,hq2⟩,fun _=>trivial⟩
  ·rw [beq_iff_eq]
   constructor
   ·exact fun hh=>⟨k.toNat,by omega,hh⟩
   ·rintro ⟨q,hq1,hq2⟩
    by_cases he:q=k.toNat
    ·subst he; exact hq2
    ·exact absurd (e6.2 ⟨q,by omega,hq2⟩) cf
  ·have any_iff:(ns.any fun n=>decide (n=i2))=true↔f=true:=by
    rw [e6,List.any_eq_true]
    constructor
    ·rintro ⟨x,hx,hx2⟩
     obtain ⟨q,hq,rfl⟩:=List.mem_iff_getElem.1 hx
     exact ⟨q,by omega,by rw [eJ hq]; exact of_decide_eq_true hx2⟩
    ·rintro ⟨q,hq,hq2⟩
     exact ⟨_,eF (by omega),decide_eq_true hq2⟩
   refine ⟨fun cf=>⟨by omega,by omega,by omega,by omega,by omega,⟨by omega,by omega,?_,?_⟩,by omega⟩,fun cf=>⟨by omega,by omega,⟨by omega,by omega,?_,by omega⟩,by omega⟩⟩
   ·rw [step i2 g0,← g2,if_neg (fun hh=>cf (any_iff.1 hh))]
   ·rw [List.length_append,List.length_singleton]
    omega
   ·rw [step i2 g0,← g2,if_pos (any_iff.2 (Classical.not_not.1 cf)),List.append_nil]
 ·rw [g2,show i.toNat=l.length from by omega]
  rfl

theorem wO {m:bM} {jobs:List bQ} {T:List Int} (h:(aX (m,jobs)).2=0) (hT:∀ i∈T,0≤i∧i < (jobs.length:Int)∧(at_ jobs i).2.2.1=m.1.1) (hn:T.Nodup) :
  (aX (m,cW (jobs,T))).2=0∧(aX (m,cW (jobs,T))).1=eA (aX (m,jobs)).1 (dX (ndL (T.map (at_ jobs)))):=by
 have hsub:(cW (jobs,T)).Sublist jobs:=by
  conv=>rhs; rw [← yI jobs]
  exact List.filter_sublist.map _
 obtain ⟨h1,_⟩:=aGK hsub h
 refine ⟨h1,?_⟩
 rw [nT h1,nT h]
 simp only
 have ndx:(gS jobs.length).Nodup:=by
  unfold gS
  exact List.Pairwise.map _ (fun a b hab e=>hab (Int.ofNat.inj e)) List.nodup_range
 have e1:(dP jobs m.1.1).Perm (dP (((gS jobs.length).filter fun i=>T.any fun k=>decide (k=i)).map (at_ jobs)) m.1.1++dP (cW (jobs,T)) m.1.1):=by
  rw [← aFC]
  unfold dP cW
  refine List.Perm.map _ (List.Perm.filter _ ?_)
  rw [← List.map_append]
  conv=>lhs; rw [← yI jobs]
  exact (List.filter_append_perm (fun i:Int=>T.any fun k=>decide (k=i)) (gS jobs.length)).symm.map _
 have e2:(dP (((gS jobs.length).filter fun i=>T.any fun k=>decide (k=i)).map (at_ jobs)) m.1.1).Perm (ndL (T.map (at_ jobs))):=by
  have e3:((gS jobs.length).filter fun i=>T.any fun k=>decide (k=i)).Perm T:=by
   refine (List.perm_ext_iff_of_nodup (ndx.filter _) hn).2 fun x=>?_
   rw [List.mem_filter,List.any_eq_true]
   constructor
   ·rintro ⟨_,k,hk,e⟩
    rw [← of_decide_eq_true e]
    exact hk
   ·intro hx
    obtain ⟨q1,q2,_⟩:=hT x hx
    exact ⟨uI.2 ⟨q1,q2⟩,x,hx,decide_eq_true rfl⟩
  have e4:dP (T.map (at_ jobs)) m.1.1=ndL (T.map (at_ jobs)):=by
   unfold dP ndL
   rw [List.filter_eq_self.2]
   intro j hj
   obtain ⟨i,hi,rfl⟩:=List.mem_map.1 hj
   exact decide_eq_true (hT i hi).2.2
  rw [← e4]
  exact ((e3.map (at_ jobs)).filter _).map _
 have e3:dX (dP jobs m.1.1)=eA (dX (ndL (T.map (at_ jobs)))) (dX (dP (cW (jobs,T)) m.1.1)):=by
  rw [w8 e1,zT,w8 e2]
 rw [e3]
 simp only [p9,eA,Prod.mk.injEq]
 omega

theorem aA6 (a:bM×List bQ×bO):(fW a).Nodup:=by
 have ndx:(gS a.2.1.length).Nodup:=by
  unfold gS
  exact List.Pairwise.map _ (fun a b hab e=>hab (Int.ofNat.inj e)) List.nodup_range
 exact (uL _ _).nodup_iff.2 (ndx.filter _)

theorem wT {m:bM} {jobs:List bQ} {t:bO} (h:(aX (m,jobs)).2=0) (k:Nat) :
  (aX (m,cW (jobs,(fW (m,jobs,t)).take k))).2=0∧(aX (m,cW (jobs,(fW (m,jobs,t)).take k))).1=eA (aX (m,jobs)).1 (dX (ndL ((dZ (m,jobs,t)).take k))):=by
 have:=wO (m:=m) (jobs:=jobs) (T:=(fW (m,jobs,t)).take k) h (fun i hi=>w7 (List.mem_of_mem_take hi)) ((aA6 _).sublist (List.take_sublist _ _))
 rw [List.map_take,oQ (m,jobs,t)] at this
 exact this

theorem aGB {need free:b8} {j:bQ} {L:List bQ} (h:(bP (free,j.1.2.2.2.1)).2=0):goK need free (j::L)=if cT (need,eA free j.1.2.2.2.1)=true then some 1 else (goK need (eA free j.1.2.2.2.1) L).map (·+1):=by
 rw [goK,if_neg (not_not_intro h),yC h]

theorem wR {need:b8}:∀ {L:List bQ} {free:b8},(∀ i,i < L.length→(bP (eA free (dX (ndL (L.take i))),(L.getD i default).1.2.2.2.1)).2=0) →
  (∀ k,1≤k→k≤L.length→cT (need,eA free (dX (ndL (L.take k))))=true→(∀ i,1≤i→i < k→¬cT (need,eA free (dX (ndL (L.take i))))=true)→goK need free L=some k) ∧
  ((∀ i,1≤i→i≤L.length→¬cT (need,eA free (dX (ndL (L.take i))))=true)→goK need free L=none)
 | [],free,_=>⟨fun k h1 h2=>by simp at h2; omega,fun _=>rfl⟩
 | j::L,free,h=>by
  have h0:=h 0 (by simp)
  simp only [List.take_zero,ndL,List.map_nil,dX,jS,List.getD_cons_zero] at h0
  have step:∀ i,eA free (dX (ndL ((j::L).take (i+1))))=eA (eA free j.1.2.2.2.1) (dX (ndL (L.take i))):=fun i=>by
   rw [gT]
   rfl
  have one:eA free (dX (ndL ((j::L).take 1)))=eA free j.1.2.2.2.1:=by
   rw [step 0]
   simp only [List.take_zero,ndL,List.map_nil,dX]
   exact jS _
  obtain ⟨r1,r2⟩:=wR (need:=need) (L:=L) (free:=eA free j.1.2.2.2.1) fun i hi=>by
   have:=h (i+1) (by simpa using hi)
   rw [step i] at this
   simpa using this
  rw [aGB h0]
  constructor
  ·intro k k1 k2 k3 k4
   by_cases hk:k=1
   ·subst hk
    rw [one] at k3
    rw [if_pos k3]
   ·have h1:=k4 1 (Nat.le_refl _) (by omega)
    rw [one] at h1
    rw [if_neg h1]
    obtain ⟨k',rfl⟩:∃ k',k=k'+1:=⟨k - 1,by omega⟩
    rw [step] at k3
    rw [r1 k' (by omega) (by simpa using k2) k3 fun i e1 e2=>by
     have:=k4 (i+1) (by omega) (by omega)
     rwa [step] at this]
    rfl
  ·intro hn
   have h1:=hn 1 (Nat.le_refl _) (by simp)
   rw [one] at h1
   rw [if_neg h1,r2 fun i e1 e2=>by
    have:=hn (i+1) (by omega) (by simpa using e2)
    rwa [step] at this]
   rfl

theorem aHG {m:bM} {jobs:List bQ} {t:bO} (h:(aX (m,jobs)).2=0):∀ i,i < (dZ (m,jobs,t)).length→(bP (eA (aX (m,jobs)).1 (dX (ndL ((dZ (m,jobs,t)).take i))),((dZ (m,jobs,t)).getD i default).1.2.2.2.1)).2=0:=by
 intro i hi
 have r:∀ k,aN (eA (aX (m,jobs)).1 (dX (ndL ((dZ (m,jobs,t)).take k))))=true:=fun k=>by
  obtain ⟨h1,h2⟩:=wT (t:=t) h k
  rw [← h2]
  have h3:=(oP.1 h1).2
  rw [nT h1]
  have h4:=(yW.1 h3).2.2
  rw [rE (oP.1 h1).1] at h4
  exact h4
 refine tW.2 ⟨r i,?_,?_⟩
 ·have hm:(dZ (m,jobs,t)).getD i default∈dZ (m,jobs,t):=eF hi
  obtain ⟨q1,q2,_⟩:=aF9 hm
  refine (vJ.1 (oP.1 h).1).1 _ (List.mem_map.2 ⟨_,List.mem_filter.2 ⟨q1,decide_eq_true q2⟩,rfl⟩)
 ·have:=r (i+1)
  rw [jQ hi] at this
  unfold ndL at this ⊢
  rw [List.map_append,zT,← gT] at this
  simp only [List.map_cons,List.map_nil,dX,jS] at this
  exact this

theorem f397.ok (a:bM×List bQ×bO) (h:bY a):f397.vc a:=by
 obtain ⟨m,l,t⟩:=a
 have h1:l.length≤1048576:=h.1
 have hw:=qB (m,l,t)
 have hpl:=aEM (m,l,t)
 simp only at hw
 refine ⟨h,fun c=>?_,fun c=>⟨fun c4=>?_,fun c4=>⟨h.1,?_⟩⟩⟩
 ·simp only at c ⊢
  unfold aK
  rw [if_pos c]
 ·simp only at c c4 ⊢
  unfold aK
  rw [if_neg c,if_pos c4]
 ·have c4:=Classical.not_not.1 c4
  simp only at c c4 ⊢
  have hf:=(aFH.1 c4).1.1
  have fg:=fun k=>wT (t:=t) hf k
  obtain ⟨r1,r2⟩:=wR (need:=t.2.2.2.1) (aHG (t:=t) hf)
  have hsub:∀ T,(cW (l,T)).length≤l.length:=fun T=>by
   unfold cW
   rw [List.length_map]
   refine Nat.le_trans (List.length_filter_le _ _) ?_
   unfold gS
   simp
  have hpv:aK (m,l,t)=match goK t.2.2.2.1 (aX (m,l)).1 (dZ (m,l,t)) with
   | some k=>((fW (m,l,t)).take k,true)
   | none=>([],false):=by
   unfold aK
   exact (if_neg c).trans (if_neg (not_not_intro c4))
  have sub0:∀ k:Int,gK (fW (m,l,t)) (0:Int) k=(fW (m,l,t)).take k.toNat:=fun k=>by
   unfold gK
   simp only [Int.toNat_zero,List.drop_zero]
   rw [show (k - 0).toNat=k.toNat from by omega]
  refine ⟨fun y=>y.1=fW (m,l,t)∧1≤y.2∧y.2≤((fW (m,l,t)).length:Int)+1∧∀ i,1≤i→i < y.2.toNat→¬cT (t.2.2.2.1,eA (aX (m,l)).1 (dX (ndL ((dZ (m,l,t)).take i))))=true,fun y=>(fW (m,l,t)).length+1 - y.2.toNat,⟨rfl,by simp only; omega,by simp only; omega,fun i e1 e2=>by simp only at e2; omega⟩,fun y hy=>?_⟩
  obtain ⟨P,k⟩:=y
  obtain ⟨g1,g2,g3,g4⟩:=hy
  simp only at g1 g2 g3 g4 ⊢
  subst g1
  refine ⟨fun hk=>?_,fun hk=>?_⟩
  ·rw [sub0]
   obtain ⟨f1,f2⟩:=fg k.toNat
   refine ⟨by omega,hk,⟨h.1,?_⟩,Nat.le_trans (hsub _) h1,fun _=>⟨fun cf=>⟨by omega,hk,?_⟩,fun cf=>⟨by omega,by omega,⟨by trivial,by omega,by omega,fun i e1 e2=>?_⟩,by omega⟩⟩,fun cf=>absurd f1 cf⟩
   ·show ((fW (m,l,t)).take k.toNat).length≤1048576
    rw [List.length_take]
    omega
   ·rw [f2] at cf
    rw [hpv,r1 k.toNat (by omega) (by omega) cf g4]
   ·by_cases he:i=k.toNat
    ·subst he
     rw [← f2]
     exact cf
    ·exact g4 i e1 (by omega)
  ·rw [hpv,r2 fun i e1 e2=>g4 i e1 (by omega)]

structure ChI (l:List bM) (b:List bQ×bO) (best many top i:Int):Prop where
 i0:0≤i
 i1:i≤(l.length:Int)
 none:best < 0↔cG (l.take i.toNat,b)=[]
 some:0≤best→best < i∧(bB (at_ l best,b)).2=true∧kZ (cG (l.take i.toNat,b))=((at_ l best).1.1,(bB (at_ l best,b)).1)∧many=((bB (at_ l best,b)).1.length:Int)∧top=fJ ((at_ l best).1.1,(bB (at_ l best,b)).1)

theorem ChI.skip {l:List bM} {b:List bQ×bO} {best many top i:Int} (h:ChI l b best many top i) (hlt:i < (l.length:Int)) (c:¬(bB (at_ l i,b)).2=true):ChI l b best many top (i+1):=by
 have h0:=h.i0
 have e:cG (l.take (i+1).toNat,b)=cG (l.take i.toNat,b):=by
  rw [show (i+1).toNat=i.toNat+1 from by omega,jQ (by omega),mR,mE,if_neg (show ¬(bB (l.getD i.toNat default,b)).2=true from c),List.append_nil]
 refine ⟨by omega,by omega,by rw [e]; exact h.none,fun hb=>?_⟩
 rw [e]
 have:=h.some hb
 exact ⟨by omega,this.2⟩

theorem ChI.take {l:List bM} {b:List bQ×bO} {best many top i:Int} (h:ChI l b best many top i) (hlt:i < (l.length:Int)) (c:(bB (at_ l i,b)).2=true) (hb:best < 0∨gQ (((at_ l i).1.1,(bB (at_ l i,b)).1),((at_ l best).1.1,(bB (at_ l best,b)).1)) < 0) {many' top':Int}
  (e1:many'=((bB (at_ l i,b)).1.length:Int)) (e2:top'=fJ ((at_ l i).1.1,(bB (at_ l i,b)).1)):ChI l b i many' top' (i+1):=by
 have h0:=h.i0
 have e:cG (l.take (i+1).toNat,b)=cG (l.take i.toNat,b)++[((at_ l i).1.1,(bB (at_ l i,b)).1)]:=by
  rw [show (i+1).toNat=i.toNat+1 from by omega,jQ (by omega),mR,mE,if_pos (show (bB (l.getD i.toNat default,b)).2=true from c)]
  rfl
 refine ⟨by omega,by omega,⟨fun hh=>by omega,fun hh=>by rw [e] at hh; simp at hh⟩,fun _=>⟨by omega,c,?_,e1,e2⟩⟩
 rw [e]
 by_cases hn:cG (l.take i.toNat,b)=[]
 ·rw [hn]
  rfl
 ·have hb0:0≤best:=by
   by_cases hh:best < 0
   ·exact absurd (h.none.1 hh) hn
   ·omega
  rw [sG _ hn,(h.some hb0).2.2.1,if_pos (hb.resolve_left (by omega))]

theorem ChI.keep {l:List bM} {b:List bQ×bO} {best many top i:Int} (h:ChI l b best many top i) (hlt:i < (l.length:Int)) (c:(bB (at_ l i,b)).2=true) (hb0:¬best < 0) (hb:¬gQ (((at_ l i).1.1,(bB (at_ l i,b)).1),((at_ l best).1.1,(bB (at_ l best,b)).1)) < 0):ChI l b best many top (i+1):=by
 have h0:=h.i0
 have e:cG (l.take (i+1).toNat,b)=cG (l.take i.toNat,b)++[((at_ l i).1.1,(bB (at_ l i,b)).1)]:=by
  rw [show (i+1).toNat=i.toNat+1 from by omega,jQ (by omega),mR,mE,if_pos (show (bB (l.getD i.toNat default,b)).2=true from c)]
  rfl
 have hn:cG (l.take i.toNat,b)≠[]:=fun hh=>hb0 (h.none.2 hh)
 obtain ⟨q1,q2,q3,q4,q5⟩:=h.some (by omega)
 refine ⟨by omega,by omega,⟨fun hh=>absurd hh hb0,fun hh=>by rw [e] at hh; simp at hh⟩,fun _=>⟨by omega,q2,?_,q4,q5⟩⟩
 rw [e,sG _ hn,q3,if_neg hb]

theorem uM (x y:dF):gQ (x,y) < 0↔(x.2.length:Int) < y.2.length∨((x.2.length:Int)=y.2.length∧(fJ x < fJ y∨(fJ x=fJ y∧sLt x.1 y.1))):=by
 have ht:k5 (x.1,y.1) < 0↔sLt x.1 y.1:=by
  unfold k5
  by_cases h:sLt x.1 y.1
  ·have h':Op.bytesLess x.1.toList y.1.toList=true:=h
   rw [if_pos h']
   exact ⟨fun _=>h,fun _=>by decide⟩
  ·have h':¬Op.bytesLess x.1.toList y.1.toList=true:=h
   rw [if_neg h']
   refine ⟨fun hh=>?_,fun hh=>absurd hh h⟩
   split at hh <;> omega
 unfold gQ
 simp only [orI]
 generalize k5 (x.1,y.1)=ct at ht
 unfold fR
 simp only
 by_cases h1:(x.2.length:Int) < y.2.length
 ·rw [if_pos h1,if_neg (by decide)]
  exact ⟨fun _=>.inl h1,fun _=>by decide⟩
 ·rw [if_neg h1]
  by_cases h2:(y.2.length:Int) < x.2.length
  ·rw [if_pos h2,if_neg (by decide)]
   exact ⟨fun hh=>by omega,fun hh=>by omega⟩
  ·rw [if_neg h2,if_pos rfl]
   have h3:(x.2.length:Int)=y.2.length:=by omega
   by_cases h4:fJ x < fJ y
   ·rw [if_pos h4,if_neg (by decide)]
    exact ⟨fun _=>.inr ⟨h3,.inl h4⟩,fun _=>by decide⟩
   ·rw [if_neg h4]
    by_cases h5:fJ y < fJ x
    ·rw [if_pos h5,if_neg (by decide)]
     exact ⟨fun hh=>by omega,fun hh=>by omega⟩
    ·rw [if_neg h5,if_pos rfl]
     have h6:fJ x=fJ y:=by omega
     have e:(if ct=0 then (0:Int) else ct) < 0↔ct < 0:=by split <;> omega
     rw [e,ht]
     exact ⟨fun hh=>.inr ⟨h3,.inr ⟨h6,hh⟩⟩,fun hh=>by
      rcases hh with hh | ⟨_,hh | ⟨_,hh⟩⟩
      ·omega
      ·omega
      ·exact hh⟩

theorem aHP {R1 R2 s:Prop} {best L many T top i n:Int} (b:¬best < 0→0≤i∧i < n∧0≤best∧best < n)
  (r1:best < 0∨(L < many∨(L=many∧(T < top∨(T=top∧s))))→R1) (r2:¬best < 0→¬(L < many∨(L=many∧(T < top∨(T=top∧s))))→R2) :
  (best < 0→R1)∧(¬best < 0→(L < many→R1)∧(¬L < many→(L=many→(T < top→R1)∧(¬T < top→(T=top→0≤i∧i < n∧0≤best∧best < n∧(s→R1)∧(¬s→R2))∧(¬T=top→R2)))∧(¬L=many→R2))):=by
 refine ⟨fun c=>r1 (.inl c),fun c=>⟨fun c2=>r1 (.inr (.inl c2)),fun c2=>⟨fun c3=>⟨fun c4=>r1 (.inr (.inr ⟨c3,.inl c4⟩)),fun c4=>⟨fun c5=>?_,fun c5=>r2 c fun hh=>?_⟩⟩,fun c3=>r2 c fun hh=>?_⟩⟩⟩
 ·obtain ⟨b1,b2,b3,b4⟩:=b c
  refine ⟨b1,b2,b3,b4,fun c6=>r1 (.inr (.inr ⟨c3,.inr ⟨c5,c6⟩⟩)),fun c6=>r2 c fun hh=>?_⟩
  rcases hh with hh | ⟨_,hh | ⟨_,hh⟩⟩
  ·exact c2 hh
  ·exact c4 hh
  ·exact c6 hh
 ·rcases hh with hh | ⟨_,hh | ⟨hh,_⟩⟩
  ·exact c2 hh
  ·exact c4 hh
  ·exact c5 hh
 ·rcases hh with hh | ⟨hh,_⟩
  ·exact c2 hh
  ·exact c3 hh

theorem aHM {α β:Type} [Inhabited α] [Inhabited β] (f:α→β) {l:List α} {i:Int} (h:i.toNat < l.length):at_ (l.map f) i=f (at_ l i):=by
 unfold at_
 rw [eJ (l:=l.map f) (by rw [List.length_map]; exact h),eJ h,List.getElem_map]

theorem f389.ok (a:List bM×List bQ×bO) (h:fD a):f389.vc a:=by
 obtain ⟨l,jobs,t⟩:=a
 obtain ⟨h1,h2⟩:=h
 have h1:l.length≤1048576:=h1
 refine ⟨fun y=>ChI l (jobs,t) y.1 y.2.1 y.2.2.1 y.2.2.2,fun y=>l.length - y.2.2.2.toNat,⟨by simp only; omega,by simp only; omega,⟨fun _=>rfl,fun _=>by simp only; omega⟩,fun hh=>absurd hh (by simp only; omega)⟩,fun y hy=>?_⟩
 obtain ⟨best,many,top,i⟩:=y
 have h:ChI l (jobs,t) best many top i:=hy
 simp only
 have i0:=h.i0
 have i1:=h.i1
 refine ⟨fun hlt=>?_,fun hge=>⟨fun hb=>?_,fun hb=>?_⟩⟩
 ·have hm:at_ l i∈l:=eF (by omega)
  have hw:=h2 _ hm
  obtain ⟨pm,po⟩:=vD (m:=at_ l i) (jobs:=jobs) (t:=t)
  have pin:=xR (m:=at_ l i) (jobs:=jobs) (t:=t)
  have gl:(bB (at_ l i,jobs,t)).1.length≤jobs.length:=qZ (at_ l i,jobs,t)
  have hj:jobs.length≤1048576:=hw.1
  have pl:=congrArg List.length pm
  rw [List.length_map] at pl
  have tail:∀ T:Int,(bB (at_ l i,jobs,t)).2=true→T=fJ ((at_ l i).1.1,(bB (at_ l i,jobs,t)).1)→_:=fun T cg hT=>aHP (R1:=-9223372036854775808≤i+1∧i+1≤9223372036854775807∧ChI l (jobs,t) i ((aK (at_ l i,jobs,t)).1.length:Int) T (i+1)∧l.length - (i+1).toNat < l.length - i.toNat)
    (R2:=-9223372036854775808≤i+1∧i+1≤9223372036854775807∧ChI l (jobs,t) best many top (i+1)∧l.length - (i+1).toNat < l.length - i.toNat) (s:=sLt (at_ l i).1.1 (at_ l best).1.1) (best:=best) (L:=((aK (at_ l i,jobs,t)).1.length:Int)) (many:=many) (T:=T) (top:=top) (i:=i) (n:=(l.length:Int))
    (fun hb=>⟨i0,hlt,by omega,by have:=(h.some (by omega)).1; omega⟩)
    (fun hh=>⟨by omega,by omega,h.take hlt cg (by
     by_cases hb:best < 0
     ·exact .inl hb
     ·refine .inr ((uM _ _).2 ?_)
      obtain ⟨_,_,_,e1,e2⟩:=h.some (by omega)
      have:=hh.resolve_left hb
      rw [e1,e2,hT,pl] at this
      exact this) (by rw [pl]) hT,by omega⟩)
    (fun hb hh=>⟨by omega,by omega,h.keep hlt cg hb (fun cc=>hh (by
      obtain ⟨_,_,_,e1,e2⟩:=h.some (by omega)
      rw [e1,e2,hT,pl]
      exact (uM _ _).1 cc)),by omega⟩)
  refine ⟨i0,hlt,hw,fun c=>⟨by omega,by omega,h.skip hlt (fun hh=>c (po.trans hh)),by omega⟩,fun c=>⟨fun c1=>?_,fun c1=>?_⟩⟩
  ·have cg:(bB (at_ l i,jobs,t)).2=true:=po ▸ Classical.not_not.1 c
   have c1:0 < ((aK (at_ l i,jobs,t)).1.length:Int):=c1
   have hp:at_ (aK (at_ l i,jobs,t)).1 (((aK (at_ l i,jobs,t)).1.length:Int) - 1)∈(aK (at_ l i,jobs,t)).1:=eF (by omega)
   have b1:-9223372036854775808≤((aK (at_ l i,jobs,t)).1.length:Int) - 1:=by omega
   have b2:((aK (at_ l i,jobs,t)).1.length:Int) - 1≤9223372036854775807:=by omega
   have b3:0≤((aK (at_ l i,jobs,t)).1.length:Int) - 1:=by omega
   have b4:((aK (at_ l i,jobs,t)).1.length:Int) - 1 < ((aK (at_ l i,jobs,t)).1.length:Int):=by omega
   refine ⟨b1,b2,b3,b4,(pin _ hp).1,(pin _ hp).2,tail (at_ jobs (at_ (aK (at_ l i,jobs,t)).1 (((aK (at_ l i,jobs,t)).1.length:Int) - 1))).1.2.2.1 cg ?_⟩
   unfold fJ
   simp only
   rw [← pm,List.length_map,if_neg (by omega),aHM (at_ jobs) (by omega)]
  ·have cg:(bB (at_ l i,jobs,t)).2=true:=po ▸ Classical.not_not.1 c
   refine tail _ cg ?_
   unfold fJ
   have c1:¬0 < ((aK (at_ l i,jobs,t)).1.length:Int):=c1
   exact (if_pos (show (bB (at_ l i,jobs,t)).1.length=0 by omega)).symm
 ·have e:=h.none.1 hb
  rw [List.take_of_length_le (by omega)] at e
  unfold bA
  rw [e]
 ·obtain ⟨q1,q2,q3,_,_⟩:=h.some (by omega)
  have hne:cG (l.take i.toNat,jobs,t)≠[]:=fun hh=>hb (h.none.2 hh)
  rw [List.take_of_length_le (by omega)] at q3 hne
  refine ⟨by omega,by omega,h2 _ (eF (l:=l) (i:=best.toNat) (by omega)),by omega,by omega,?_⟩
  rw [sK hne,q3]
  rfl

theorem f399.ok (a:bM×List bQ×bO) (h:bY a):f399.vc a:=by
 obtain ⟨m,l,t⟩:=a
 obtain ⟨h1,h2,h3,h4,h5⟩:=h
 have h1':l.length≤1048576:=h1
 refine ⟨h1,h2,fun c=>?_,fun c1=>⟨h3,fun c=>?_,fun c2=>⟨fun c=>?_,fun c3=>⟨fun c=>?_,fun c4=>⟨⟨h4,h5⟩,fun c=>?_,fun c5=>?_⟩⟩⟩⟩⟩
 ·exact (if_pos fun hh=>c hh.2.1).symm
 ·exact (if_pos fun hh=>c hh.2.2).symm
 ·exact (if_pos fun hh=>c hh.1).symm
 ·exact ((if_neg (not_not_intro ⟨Classical.not_not.1 c3,Classical.not_not.1 c1,Classical.not_not.1 c2⟩)).trans (if_pos c)).symm
 ·exact ((if_neg (not_not_intro ⟨Classical.not_not.1 c3,Classical.not_not.1 c1,Classical.not_not.1 c2⟩)).trans ((if_neg c4).trans (if_pos c))).symm
 ·have hw:dS (m,l,t)=if fL (l,m,t)=true then 3 else if ¬cT (t.2.2.2.1,(aX (m,l)).1)=true then 4 else 0 :=
   (if_neg (not_not_intro ⟨Classical.not_not.1 c3,Classical.not_not.1 c1,Classical.not_not.1 c2⟩)).trans ((if_neg c4).trans (if_neg c5))
  refine ⟨fun y=>0≤y.1∧y.1≤(l.length:Int)∧y.2=(aX (m,l)).1∧∀ k,k < y.1.toNat→¬bZ (l.getD k default,m,t)=true,fun y=>l.length - y.1.toNat,⟨by simp only; omega,by simp only; omega,rfl,fun k hk=>by simp at hk⟩,fun y hy=>?_⟩
  obtain ⟨i,fr⟩:=y
  obtain ⟨g0,g1,g2,g3⟩:=hy
  simp only at g0 g1 g2 g3 ⊢
  subst g2
  have go:i < (l.length:Int)→¬bZ (at_ l i,m,t)=true→-9223372036854775808≤i+1∧i+1≤9223372036854775807∧(0≤i+1∧i+1≤(l.length:Int)∧(aX (m,l)).1=(aX (m,l)).1∧∀ k,k < (i+1).toNat→¬bZ (l.getD k default,m,t)=true)∧l.length - (i+1).toNat < l.length - i.toNat:=fun hlt hb=>by
   refine ⟨by omega,by omega,⟨by omega,by omega,rfl,fun k hk=>?_⟩,by omega⟩
   by_cases he:k=i.toNat
   ·subst he; exact hb
   ·exact g3 k (by omega)
  refine ⟨fun hlt=>⟨g0,hlt,fun b1=>⟨fun b2=>⟨fun b3=>⟨fun b4=>?_,fun b4=>go hlt fun hh=>b4 (of_decide_eq_true hh).2.2.2⟩,fun b3=>go hlt fun hh=>b3 (of_decide_eq_true hh).2.2.1⟩,fun b2=>go hlt fun hh=>b2 (of_decide_eq_true hh).2.1⟩,fun b1=>go hlt fun hh=>b1 (of_decide_eq_true hh).1⟩,fun hge=>?_⟩
  ·rw [hw,if_pos]
   exact List.any_eq_true.2 ⟨at_ l i,eF (l:=l) (i:=i.toNat) (by omega),decide_eq_true ⟨b1,b2,b3,b4⟩⟩
  ·have hn:¬fL (l,m,t)=true:=fun hh=>by
    obtain ⟨j,hj,hb⟩:=List.any_eq_true.1 hh
    obtain ⟨k,hk,rfl⟩:=List.mem_iff_getElem.1 hj
    have hk:k < l.length:=hk
    refine g3 k (by omega) ?_
    rw [eJ hk]
    exact hb
   rw [hw,if_neg hn]
   exact ⟨fun c=>(if_pos c).symm,fun c=>(if_neg c).symm⟩
end Go.Abs
