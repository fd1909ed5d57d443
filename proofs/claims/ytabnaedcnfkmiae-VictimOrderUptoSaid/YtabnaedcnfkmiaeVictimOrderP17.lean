/- Functions, and what the code asks of them: PVict2. -/
import Derived.KernelRfl
import Derived.Test.YtabnaedcnfkmiaeVictimOrderP3
import Derived.Test.YtabnaedcnfkmiaeVictimOrderP4
import Derived.Test.YtabnaedcnfkmiaeVictimOrderP5
import Derived.Test.YtabnaedcnfkmiaeVictimOrderP6
import Derived.Test.YtabnaedcnfkmiaeVictimOrderP7
import Derived.Test.YtabnaedcnfkmiaeVictimOrderP8
import Derived.Test.YtabnaedcnfkmiaeVictimOrderP9
import Derived.Test.YtabnaedcnfkmiaeVictimOrderP10
import Derived.Test.YtabnaedcnfkmiaeVictimOrderP11
import Derived.Test.YtabnaedcnfkmiaeVictimOrderP12
import Derived.Test.YtabnaedcnfkmiaeVictimOrderP13
import Derived.Test.YtabnaedcnfkmiaeVictimOrderP14
import Derived.Test.YtabnaedcnfkmiaeVictimOrderP15
import Derived.Test.YtabnaedcnfkmiaeVictimOrderP16
set_option linter.unusedVariables false
set_option linter.unusedSimpArgs false
/- The machine from which jobs go; and the document's answers. -/
namespace Go.Abs
open Go

abbrev b8 := ByteArray × List bZ
def dY (o : b8) : Int := if o.2.length = 0 then -1 else (at_ o.2 ((o.2.length : Int) - 1)).1.2.2.1
def oA (o : b8) : Prop := L20 o.2
def fG (c : b8 × b8) : Int := orI [eX ((c.1.2.length : Int),(c.2.2.length : Int)),eX (dY c.1,dY c.2),kE (c.1.1,c.2.1)]
def lV (c : b8 × b8) : Prop := L20 c.1.2 ∧ L20 c.2.2
def eT (m : b8) : List b8 → b8
 | [] => m
 | x :: l => eT (if fG (x,m) < 0 then x else m) l
def iN : List b8 → b8
 | [] => default
 | x :: l => eT x l
def pQ (l : List b8) : Prop := 0 < l.length ∧ L20 l ∧ ∀ o ∈ l,L20 o.2
def bI (a : List bO × List bZ × bT) : List b8 := (a.1.filter fun m => (aZ (m,a.2)).2).map fun m => (m.1.1,(aZ (m,a.2)).1)
def fC (a : List bO × List bZ × bT) : Prop := L20 a.1 ∧ ∀ m ∈ a.1,eK (m,a.2)
def a8 (a : List bO × List bZ × bT) : ByteArray × List ByteArray × Bool :=
 match bI a with
 | [] => (ByteArray.empty,[],false)
 | x :: l => ((eT x l).1,eZ (eT x l).2,true)
def gY (a : List ByteArray × List ByteArray) : Bool := decide (a.1 = a.2)
def nU (a : List ByteArray × List ByteArray) : Prop := L20 a.1 ∧ L20 a.2
end Go.Abs

-- (interregnum/victim.offer).top
namespace Go.Abs
open Go
def f252.args (a : aI) : List D := [.agg [.str a.1,.slice .ro 13 a.2.length (gl aA a.2)]]
def f252.blks (a : aI) : List (List D) := []
def f252.res (a : aI) : List D := [.int .i64 (dY a)]
def f252.blks' (a : aI) : List (List D) := []
def f252.C : aM := FnC f252.args f252.blks (fun a => oA a) f252.res f252.blks'
end Go.Abs

/- (interregnum/victim.offer).top -/
namespace Go.Abs
open Go
set_option linter.unusedVariables false
def f252.kills (a : aI) : List dB := []
def f252.cuts (a : aI) : List (Nat × Σ β : Type,β→Tm) := []
def f252.af (a : aI) : AF := AF.mk (.seq (.region [oT 1 0 .box [0],
 ⟨(some 2),1,.move,[.c (.int .i64 (0))],none⟩])
 (.seq (.seq (.region [oT 3 2 (.fieldAddr 1) [1],
 oT 4 3 (.load false 1) [3],
 oT 5 4 (.len false) [4],
 ⟨(some 6),5,(.bin .eql),[.t 5,.c (.int .i64 (0))],none⟩])
 (.cond (.t 6) (.seq (.region [⟨(some 2),6,.move,[.c (.int .i64 (-1))],none⟩])
 (.ret)) (.skip)))
 (.seq (.region [oT 7 7 (.fieldAddr 1) [1],
 oT 8 8 (.load false 1) [7],
 oT 9 9 (.fieldAddr 1) [1],
 oT 10 10 (.load false 1) [9],
 oT 11 11 (.len false) [10],
 ⟨(some 12),12,(.bin .sub),[.t 11,.c (.int .i64 (1))],none⟩,
 oT 13 13 (.indexAddr 13 none) [8,12],
 oT 14 14 (.fieldAddr 0) [13],
 oT 15 15 (.fieldAddr 2) [14],
 oT 16 16 (.load false 1) [15],
 oT 2 17 .move [16]])
 (.ret))))
 [.tmp 2] 0 16
def f252.env : Env := []
def f252.tree (a : aI) : Prop := Br ((a.2.length : Int) == (0 : Int)) (((-1 : Int) = (dY a))∧True) (Let (IntKind.i64.wrap ((a.2.length : Int) - (1 : Int))) (fun v4 : Int => Br (decide ((0 : Int)≤v4) && decide (v4 < (a.2.length : Int))) (((((at_ a.2 v4).1).2.2.1) = (dY a))∧True) False))
def f252.vc (a : aI) : Prop := (((a.2.length : Int) = (0 : Int)→((-1 : Int) = dY a))∧(¬ ((a.2.length : Int) = (0 : Int))→(-9223372036854775808≤((a.2.length : Int) - (1 : Int))∧((a.2.length : Int) - (1 : Int))≤9223372036854775807∧((0 : Int)≤((a.2.length : Int) - (1 : Int))∧((a.2.length : Int) - (1 : Int)) < (a.2.length : Int)∧(((at_ a.2 ((a.2.length : Int) - (1 : Int))).1).2.2.1 = dY a)))))
set_option maxRecDepth 100000 in
set_option maxHeartbeats 2000000 in
theorem f252.of (a : aI) (h : f252.vc a) : f252.tree a := br h Cnd.eq (fun h1 k11 => ⟨k11,trivial⟩) (fun h2 k12 => wrapK.i64 k12 (fun h8 h9 k10 => chk k10.2.2 Cnd.ix ⟨k10.1,k10.2.1⟩ (fun h5 k7 => ⟨k7,trivial⟩)))
theorem f252.eq (a : aI) : (f252.af a).gives f252.env (f252.args a) (f252.blks a) (f252.res a) (f252.blks' a) = f252.tree a := by kernel_rfl
end Go.Abs

-- interregnum/victim.compare
namespace Go.Abs
open Go
def f245.args (a : aI × aI) : List D := [.agg [.str a.1.1,.slice .ro 13 a.1.2.length (gl aA a.1.2)],.agg [.str a.2.1,.slice .ro 13 a.2.2.length (gl aA a.2.2)]]
def f245.blks (a : aI × aI) : List (List D) := []
def f245.res (a : aI × aI) : List D := [.int .i64 (fG a)]
def f245.blks' (a : aI × aI) : List (List D) := []
def f245.C : aM := FnC f245.args f245.blks (fun a => lV a) f245.res f245.blks'
end Go.Abs

/- interregnum/victim.compare -/
namespace Go.Abs
open Go
set_option linter.unusedVariables false
def f245.kills (a : aI × aI) : List dB := []
def f245.cuts (a : aI × aI) : List (Nat × Σ β : Type,β→Tm) := []
def f245.af (a : aI × aI) : AF := AF.mk (.seq (.region [oT 2 0 .box [0],
 oT 3 1 .box [1],
 ⟨(some 4),2,.move,[.c (.int .i64 (0))],none⟩])
 (.seq (.region [oT 5 3 (.fieldAddr 1) [2],
 oT 6 4 (.load false 1) [5],
 oT 7 5 (.len false) [6],
 oT 8 6 (.fieldAddr 1) [3],
 oT 9 7 (.load false 1) [8],
 oT 10 8 (.len false) [9],
 oT 11 9 (.call false 130) [7,10],
 oT 12 13 (.load true 2) [2],
 oT 13 14 (.call false 252) [12],
 oT 14 18 (.load true 2) [3],
 oT 15 19 (.call false 252) [14],
 oT 16 23 (.call false 130) [13,15],
 oT 17 27 (.fieldAddr 0) [2],
 oT 18 28 (.load false 1) [17],
 oT 19 29 (.fieldAddr 0) [3],
 oT 20 30 (.load false 1) [19],
 oT 21 31 (.call false 176) [18,20],
 oT 22 35 (.buildSlice 1 3 [.int .i64 (0)] [(0,1),(1,1),(2,1)]) [11,16,21],
 oT 23 36 (.call false 129) [22],
 oT 4 40 .move [23]])
 (.ret)))
 [.tmp 4] 0 22
def f245.env : Env := [(130,f130.C),(252,f252.C),(176,f176.C),(129,f129.C)]
def f245.tree (a : aI × aI) : Prop := ∃ c1 : Int × Int,((a.1.2.length : Int) = c1.1)∧((a.2.2.length : Int) = c1.2)∧True∧∃ c2 : aI,(a.1.1 = c2.1)∧SlQ a.1.2.length c2.2.length (gl aA a.1.2) (gl aA c2.2) ((oA c2)∧∃ c3 : aI,(a.2.1 = c3.1)∧SlQ a.2.2.length c3.2.length (gl aA a.2.2) (gl aA c3.2) ((oA c3)∧∃ c4 : Int × Int,((dY c2) = c4.1)∧((dY c3) = c4.2)∧True∧∃ c5 : ByteArray × ByteArray,(a.1.1 = c5.1)∧(a.2.1 = c5.2)∧True∧∃ c6 : List (Int),SlQ 3 c6.length (fun j => List.take 1 (List.drop (j * 1) [.int .i64 (eX c1),.int .i64 (eX c4),.int .i64 (kE c5)])) (gl rW c6) ((jY c6)∧((orI c6) = (fG a))∧True)))
def f245.vc (a : aI × aI) : Prop := (oA a.1∧(oA a.2∧(jY ([(eX ((a.1.2.length : Int),(a.2.2.length : Int))),(eX ((dY (a.1)),(dY (a.2)))),(kE (a.1.1,a.2.1))])∧((orI ([(eX ((a.1.2.length : Int),(a.2.2.length : Int))),(eX ((dY (a.1)),(dY (a.2)))),(kE (a.1.1,a.2.1))])) = fG a))))
set_option maxRecDepth 100000 in
set_option maxHeartbeats 2000000 in
theorem f245.of (a : aI × aI) (h : f245.vc a) : f245.tree a := ⟨((a.1.2.length : Int),(a.2.2.length : Int)),⟨rfl,⟨rfl,⟨trivial,⟨a.1,⟨rfl,slQ (Rds.self (enc := aA)) (⟨h.1,⟨a.2,⟨rfl,slQ (Rds.self (enc := aA)) (⟨h.2.1,⟨((dY (a.1)),(dY (a.2))),⟨rfl,⟨rfl,⟨trivial,⟨(a.1.1,a.2.1),⟨rfl,⟨rfl,⟨trivial,⟨[(eX ((a.1.2.length : Int),(a.2.2.length : Int))),(eX ((dY (a.1)),(dY (a.2)))),(kE (a.1.1,a.2.1))],slQ (Rds.row (enc := rW) ⟨rfl,fun i hi => by repeat (first | rfl | exact absurd hi (Nat.not_lt.2 (Nat.le_add_left 3 _)) | (cases i with | zero => rfl | succ i => ?_))⟩) (⟨h.2.2.1,⟨h.2.2.2,trivial⟩⟩)⟩⟩⟩⟩⟩⟩⟩⟩⟩⟩)⟩⟩⟩)⟩⟩⟩⟩⟩⟩
theorem f245.eq (a : aI × aI) : (f245.af a).gives f245.env (f245.args a) (f245.blks a) (f245.res a) (f245.blks' a) = f245.tree a := by kernel_rfl
end Go.Abs

-- slices.MinFunc[[]interregnum/victim.offer,interregnum/victim.offer]
namespace Go.Abs
open Go
def f244.args (a : List (aI)) : List D := [.slice .ro 2 a.length (gl aT a),.fn 245 []]
def f244.blks (a : List (aI)) : List (List D) := []
def f244.res (a : List (aI)) : List D := [.agg [.str ((iN a).1),.slice .ro 13 (((iN a).2).length) (gl aA ((iN a).2))]]
def f244.blks' (a : List (aI)) : List (List D) := []
def f244.C : aM := FnC f244.args f244.blks (fun a => pQ a) f244.res f244.blks'
end Go.Abs

/- slices.MinFunc[[]interregnum/victim.offer,interregnum/victim.offer] -/
namespace Go.Abs
open Go
set_option linter.unusedVariables false
def f244.S0 (a : List (aI)) (x : Int × ByteArray × (List (aB))) : Tm := ⟨[.slice .ro 2 a.length (gl aT a),.fn 245 [],.dead,.dead,.ptr 0 0,.ptr 11 0,.int .i64 x.1,.dead,.dead,.dead,.dead,.dead,.dead,.dead,.dead,.dead,.dead,.dead,.dead,.dead,.dead,.dead,.dead,.dead,.dead,.dead,.dead,.dead,.dead,.dead,.dead,.dead,.dead],[(0,false,[.str ByteArray.empty,.slice (.own 2) 13 0 cN]),(11,false,[.str x.2.1,.slice .ro 13 x.2.2.length (gl aA x.2.2)])],[(2,13,0)]⟩
def f244.kills (a : List (aI)) : List dB := [.tell (Int × ByteArray × (List (aB))) (f244.S0 a)]
def f244.cuts (a : List (aI)) : List (Nat × Σ β : Type,β→Tm) := []
def f244.af (a : List (aI)) : AF := AF.mk (.seq (.region [oT 4 0 (.alloc [.str ByteArray.empty,.slice (.own 0) 13 0 cN]) []])
 (.seq (.seq (.region [oT 7 3 .move [0],
 oT 8 4 (.len false) [7],
 ⟨(some 9),5,(.bin .lss),[.t 8,.c (.int .i64 (1))],none⟩])
 (.cond (.t 9) (.region [oT 10 6 .stuck [],
 ⟨none,7,.stuck,[],none⟩]) (.skip)))
 (.seq (.region [oT 11 8 .move [0],
 ⟨(some 12),9,(.indexAddr 2 none),[.t 11,.c (.int .i64 (0))],none⟩,
 oT 13 10 (.load true 2) [12],
 oT 5 11 (.alloc [.str ByteArray.empty,.slice (.own 0) 13 0 cN]) [],
 ⟨none,14,(.store 2),[.t 5,.t 13],none⟩])
 (.seq (.seq (.region [⟨(some 6),15,.move,[.c (.int .i64 (1))],none⟩])
 (.block 0 (.loopT (Int × ByteArray × (List (aB))) (f244.S0 a) 16 39 (.seq (.seq (.region [oT 14 16 .move [6],
 oT 15 17 .move [0],
 oT 16 18 (.len false) [15],
 oT 17 19 (.bin .lss) [14,16]])
 (.cond (.t 17) (.skip) (.exit 0)))
 (.seq (.block 1 (.seq (.region [oT 20 20 .move [1],
 oT 21 21 .move [0],
 oT 22 22 .move [6],
 oT 23 23 (.indexAddr 2 none) [21,22],
 oT 24 24 (.load true 2) [23],
 oT 25 25 (.load true 2) [5],
 oT 26 26 (.callv false) [20,24,25],
 ⟨(some 27),30,(.bin .lss),[.t 26,.c (.int .i64 (0))],none⟩])
 (.cond (.t 27) (.region [oT 28 31 .move [0],
 oT 29 32 .move [6],
 oT 30 33 (.indexAddr 2 none) [28,29],
 oT 31 34 (.load true 2) [30],
 ⟨none,35,(.store 2),[.t 5,.t 31],none⟩]) (.skip))))
 (.region [oT 18 36 .move [6],
 ⟨(some 19),37,(.bin .add),[.t 18,.c (.int .i64 (1))],none⟩,
 oT 6 38 .move [19]]))))))
 (.seq (.region [oT 32 39 (.load true 2) [5],
 ⟨none,40,(.store 2),[.t 4,.t 32],none⟩])
 (.ret))))))
 [.cell 4 true 2] 0 31
def f244.env : Env := [(245,f245.C)]
def f244.tree (a : List (aI)) : Prop := Br (decide ((a.length : Int) < (1 : Int))) (False) (Br (decide ((0 : Int)≤(0 : Int)) && decide ((0 : Int) < (a.length : Int))) (∃ (I5 : (Int × ByteArray × (List (aB)))→Prop) (μ6 : (Int × ByteArray × (List (aB)))→Nat),(∃ x4 : Int × ByteArray × (List (aB)),SlS aT a ((DEqs [] [])∧((1 : Int) = x4.1)∧(ByteArray.empty = ByteArray.empty)∧SlQ 0 0 cN cN ((((at_ a (0 : Int)).1) = x4.2.1)∧SlQ (((at_ a (0 : Int)).2).length) x4.2.2.length (gl aA ((at_ a (0 : Int)).2)) (gl aA x4.2.2) ((0 = 0)∧I5 x4))))∧∀ y7 : Int × ByteArray × (List (aB)),I5 y7→(Br (decide (y7.1 < (a.length : Int))) (Br (decide ((0 : Int)≤y7.1) && decide (y7.1 < (a.length : Int))) (∃ c11 : aI × aI,(((at_ a y7.1).1) = c11.1.1)∧SlQ (((at_ a y7.1).2).length) c11.1.2.length (gl aA ((at_ a y7.1).2)) (gl aA c11.1.2) ((y7.2.1 = c11.2.1)∧SlQ y7.2.2.length c11.2.2.length (gl aA y7.2.2) (gl aA c11.2.2) ((lV c11)∧Br (decide ((fG c11) < (0 : Int))) (Br (decide ((0 : Int)≤y7.1) && decide (y7.1 < (a.length : Int))) (Let (IntKind.i64.wrap (y7.1 + (1 : Int))) (fun v15 : Int => ∃ x16 : Int × ByteArray × (List (aB)),SlS aT a ((DEqs [] [])∧(v15 = x16.1)∧(ByteArray.empty = ByteArray.empty)∧SlQ 0 0 cN cN ((((at_ a y7.1).1) = x16.2.1)∧SlQ (((at_ a y7.1).2).length) x16.2.2.length (gl aA ((at_ a y7.1).2)) (gl aA x16.2.2) ((0 = 0)∧I5 x16∧μ6 x16 < μ6 y7))))) False) (Let (IntKind.i64.wrap (y7.1 + (1 : Int))) (fun v22 : Int => ∃ x23 : Int × ByteArray × (List (aB)),SlS aT a ((DEqs [] [])∧(v22 = x23.1)∧(ByteArray.empty = ByteArray.empty)∧SlQ 0 0 cN cN ((y7.2.1 = x23.2.1)∧SlQ y7.2.2.length x23.2.2.length (gl aA y7.2.2) (gl aA x23.2.2) ((0 = 0)∧I5 x23∧μ6 x23 < μ6 y7)))))))) False) ((y7.2.1 = ((iN a).1))∧SlQ y7.2.2.length (((iN a).2).length) (gl aA y7.2.2) (gl aA ((iN a).2)) (True)))) False)
def f244.vc (a : List (aI)) : Prop := (((a.length : Int) < (1 : Int)→False)∧(¬ ((a.length : Int) < (1 : Int))→((0 : Int) < (a.length : Int)∧(∃ (I5 : (Int × ByteArray × (List (aB)))→Prop) (μ6 : (Int × ByteArray × (List (aB)))→Nat),I5 ((1 : Int),(at_ a (0 : Int)).1,(at_ a (0 : Int)).2)∧∀ y7 : Int × ByteArray × (List (aB)),I5 y7→((y7.1 < (a.length : Int)→((0 : Int)≤y7.1∧y7.1 < (a.length : Int)∧(lV ((at_ a y7.1),y7.2)∧(((fG ((at_ a y7.1),y7.2)) < (0 : Int)→((0 : Int)≤y7.1∧y7.1 < (a.length : Int)∧(-9223372036854775808≤(y7.1 + (1 : Int))∧(y7.1 + (1 : Int))≤9223372036854775807∧(I5 ((y7.1 + (1 : Int)),(at_ a y7.1).1,(at_ a y7.1).2)∧μ6 ((y7.1 + (1 : Int)),(at_ a y7.1).1,(at_ a y7.1).2) < μ6 y7))))∧(¬ ((fG ((at_ a y7.1),y7.2)) < (0 : Int))→(-9223372036854775808≤(y7.1 + (1 : Int))∧(y7.1 + (1 : Int))≤9223372036854775807∧(I5 ((y7.1 + (1 : Int)),y7.2.1,y7.2.2)∧μ6 ((y7.1 + (1 : Int)),y7.2.1,y7.2.2) < μ6 y7)))))))∧(¬ (y7.1 < (a.length : Int))→(y7.2 = iN a)))))))
set_option maxRecDepth 100000 in
set_option maxHeartbeats 2000000 in
theorem f244.of (a : List (aI)) (h : f244.vc a) : f244.tree a := br h Cnd.dec (fun h1 k39 => k39) (fun h2 k40 => chk k40.2 Cnd.ix ⟨(by decide),k40.1⟩ (fun h3 k38 => Exists.elim k38 (fun I5 h35_ => Exists.elim h35_ (fun μ6 h35 => ⟨I5,μ6,⟨((1 : Int),(at_ a (0 : Int)).1,(at_ a (0 : Int)).2),SlS.mk  (⟨(DEqs.refl _),⟨rfl,⟨rfl,slQ ⟨rfl,fun _ _ => DEqs.refl _⟩ (⟨rfl,slQ (Rds.self (enc := aA)) (⟨rfl,h35.1⟩)⟩)⟩⟩⟩)⟩,fun y7 h37 => br (h35.2 y7 h37) Cnd.dec (fun h8 k33 => chk k33.2.2 Cnd.ix ⟨k33.1,k33.2.1⟩ (fun h10 k31 => ⟨((at_ a y7.1),y7.2),⟨rfl,slQ (Rds.self (enc := aA)) (⟨rfl,slQ (Rds.self (enc := aA)) (⟨k31.1,br k31.2 Cnd.dec (fun h12 k28 => chk k28.2.2 Cnd.ix ⟨k28.1,k28.2.1⟩ (fun h14 k21 => wrapK.i64 k21 (fun h18 h19 k20 => ⟨((y7.1 + (1 : Int)),(at_ a y7.1).1,(at_ a y7.1).2),SlS.mk  (⟨(DEqs.refl _),⟨rfl,⟨rfl,slQ ⟨rfl,fun _ _ => DEqs.refl _⟩ (⟨rfl,slQ (Rds.self (enc := aA)) (⟨rfl,k20⟩)⟩)⟩⟩⟩)⟩))) (fun h13 k29 => wrapK.i64 k29 (fun h25 h26 k27 => ⟨((y7.1 + (1 : Int)),y7.2.1,y7.2.2),SlS.mk  (⟨(DEqs.refl _),⟨rfl,⟨rfl,slQ ⟨rfl,fun _ _ => DEqs.refl _⟩ (⟨rfl,slQ (Rds.self (enc := aA)) (⟨rfl,k27⟩)⟩)⟩⟩⟩)⟩))⟩)⟩)⟩⟩)) (fun h9 k34 => ⟨(congrArg (fun x : aI => x.1) k34 :),slQ (Rds.to (Rds.self (enc := aA)) (congrArg (fun x : aI => x.2) k34 :)) (trivial)⟩)⟩))))
theorem f244.eq (a : List (aI)) : (f244.af a).gives f244.env (f244.args a) (f244.blks a) (f244.res a) (f244.blks' a) = f244.tree a := by kernel_rfl
end Go.Abs

-- interregnum/victim.Choose
namespace Go.Abs
open Go
def f227.args (a : (List (aC)) × (List (aB)) × aG) : List D := [.slice .ro 7 a.1.length (gl aK a.1),.slice .ro 13 a.2.1.length (gl aA a.2.1),.agg [.str a.2.2.1,.str a.2.2.2.1,.int .i64 a.2.2.2.2.1,.int .i64 a.2.2.2.2.2.1.1,.int .i64 a.2.2.2.2.2.1.2.1,.int .i64 a.2.2.2.2.2.1.2.2,.slice .ro 2 a.2.2.2.2.2.2.1.length (gl aD a.2.2.2.2.2.2.1),.str a.2.2.2.2.2.2.2.1,.str a.2.2.2.2.2.2.2.2.1,.int .i64 a.2.2.2.2.2.2.2.2.2]]
def f227.blks (a : (List (aC)) × (List (aB)) × aG) : List (List D) := []
def f227.res (a : (List (aC)) × (List (aB)) × aG) : List D := [.str ((a8 a).1),.slice .ro 1 (((a8 a).2.1).length) (gl cR ((a8 a).2.1)),.bool ((a8 a).2.2)]
def f227.blks' (a : (List (aC)) × (List (aB)) × aG) : List (List D) := []
def f227.C : aM := FnC f227.args f227.blks (fun a => fC a) f227.res f227.blks'
end Go.Abs

/- interregnum/victim.Choose -/
namespace Go.Abs
open Go
set_option linter.unusedVariables false
def f227.S0 (a : (List (aC)) × (List (aB)) × aG) (x : (List (aI)) × Int) : Tm := ⟨[.dead,.slice .ro 13 a.2.1.length (gl aA a.2.1),.dead,.dead,.dead,.ptr 0 0,.dead,.dead,.dead,.slice (.own 4) 2 x.1.length (gl aT x.1),.dead,.dead,.dead,.dead,.dead,.slice .ro 7 a.1.length (gl aK a.1),.int .i64 (a.1.length : Int),.int .i64 x.2,.dead,.dead,.dead,.dead,.dead,.dead,.dead,.dead,.dead,.dead,.dead,.dead,.dead,.dead,.dead,.dead,.dead,.dead,.dead,.dead,.dead,.dead,.dead,.dead,.dead,.dead,.dead,.dead,.dead,.dead],[(0,false,[.str a.2.2.1,.str a.2.2.2.1,.int .i64 a.2.2.2.2.1,.int .i64 a.2.2.2.2.2.1.1,.int .i64 a.2.2.2.2.2.1.2.1,.int .i64 a.2.2.2.2.2.1.2.2,.slice .ro 2 a.2.2.2.2.2.2.1.length (gl aD a.2.2.2.2.2.2.1),.str a.2.2.2.2.2.2.2.1,.str a.2.2.2.2.2.2.2.2.1,.int .i64 a.2.2.2.2.2.2.2.2.2])],[(4,2,x.1.length)]⟩
def f227.kills (a : (List (aC)) × (List (aB)) × aG) : List dB := [.tell ((List (aI)) × Int) (f227.S0 a)]
def f227.cuts (a : (List (aC)) × (List (aB)) × aG) : List (Nat × Σ β : Type,β→Tm) := []
def f227.af (a : (List (aC)) × (List (aB)) × aG) : AF := AF.mk (.seq (.region [oT 5 0 .box [2],
 ⟨(some 6),1,.move,[.c (.str ByteArray.empty)],none⟩,
 oT 7 2 (.nilSl 1) [],
 ⟨(some 8),3,.move,[.c (.bool false)],none⟩])
 (.seq (.region [oT 9 4 (.nilSl 2) []])
 (.seq (.seq (.region [oT 15 5 .move [0],
 oT 16 6 (.len false) [15],
 ⟨(some 17),7,.move,[.c (.int .i64 (0))],none⟩])
 (.block 0 (.loopT ((List (aI)) × Int) (f227.S0 a) 8 44 (.seq (.region [oT 18 8 (.bin .lss) [17,16]])
 (.seq (.cond (.t 18) (.skip) (.exit 0))
 (.seq (.block 1 (.seq (.region [oT 19 9 (.indexAddr 7 none) [15,17],
 oT 20 10 (.load true 7) [19],
 oT 11 11 (.alloc [.str ByteArray.empty,.int .i64 (0),.int .i64 (0),.int .i64 (0),.slice (.own 0) 2 0 cN,.bool false,.int .i64 (0)]) [],
 ⟨none,19,(.store 7),[.t 11,.t 20],none⟩])
 (.seq (.region [oT 22 20 (.load true 7) [11],
 oT 23 21 .move [1],
 oT 24 22 (.load true 10) [5],
 oT 25 23 (.call false 243) [22,23,24],
 oT 21 27 .move [25],
 oT 26 28 (.extract 0) [21],
 oT 27 29 (.extract 1) [21],
 oT 12 30 .move [26],
 oT 13 31 .move [27]])
 (.seq (.region [oT 28 32 .move [13]])
 (.cond (.t 28) (.region [oT 29 33 .move [9],
 oT 30 34 (.fieldAddr 0) [11],
 oT 31 35 (.fieldAddr 0) [30],
 oT 32 36 (.load false 1) [31],
 oT 33 37 .move [12],
 oT 34 38 (.build [.str ByteArray.empty,.slice .full 13 0 cN] [(0,1),(1,1)]) [32,33],
 oT 35 39 (.buildSlice 2 1 [.str ByteArray.empty,.slice .full 13 0 cN] [(0,2)]) [34],
 oT 36 40 (.append 2 40) [29,35],
 oT 9 41 .move [36]]) (.skip))))))
 (.region [⟨(some 37),42,(.bin .add),[.t 17,.c (.int .i64 (1))],none⟩,
 oT 17 43 .move [37]])))))))
 (.seq (.seq (.region [oT 38 44 .move [9],
 oT 39 45 (.len false) [38],
 ⟨(some 40),46,(.bin .eql),[.t 39,.c (.int .i64 (0))],none⟩])
 (.cond (.t 40) (.seq (.region [⟨(some 6),47,.move,[.c (.str ByteArray.empty)],none⟩,
 oT 7 48 (.nilSl 1) [],
 ⟨(some 8),49,.move,[.c (.bool false)],none⟩])
 (.ret)) (.skip)))
 (.seq (.region [oT 41 50 .move [9],
 ⟨(some 42),51,(.call false 244),[.t 41,.c (.fn 245 [])],none⟩,
 oT 14 55 (.alloc [.str ByteArray.empty,.slice (.own 0) 13 0 cN]) [],
 ⟨none,58,(.store 2),[.t 14,.t 42],none⟩])
 (.seq (.region [oT 43 59 (.fieldAddr 0) [14],
 oT 44 60 (.load false 1) [43],
 oT 45 61 (.fieldAddr 1) [14],
 oT 46 62 (.load false 1) [45],
 oT 47 63 (.call false 246) [46],
 oT 6 67 .move [44],
 oT 7 68 .move [47],
 ⟨(some 8),69,.move,[.c (.bool true)],none⟩])
 (.ret)))))))
 [.tmp 6,.tmp 7,.tmp 8] 0 45
def f227.env : Env := [(243,f243.C),(244,f244.C),(246,f246.C)]
def f227.tree (a : (List (aC)) × (List (aB)) × aG) : Prop := ∃ (I2 : ((List (aI)) × Int)→Prop) (μ3 : ((List (aI)) × Int)→Nat),(∃ x1 : (List (aI)) × Int,SlS aA a.2.1 (SlQ 0 x1.1.length cN (gl aT x1.1) (SlS aK a.1 (((a.1.length : Int) = (a.1.length : Int))∧((0 : Int) = x1.2)∧(a.2.2.1 = a.2.2.1)∧(a.2.2.2.1 = a.2.2.2.1)∧(a.2.2.2.2.1 = a.2.2.2.2.1)∧(a.2.2.2.2.2.1.1 = a.2.2.2.2.2.1.1)∧(a.2.2.2.2.2.1.2.1 = a.2.2.2.2.2.1.2.1)∧(a.2.2.2.2.2.1.2.2 = a.2.2.2.2.2.1.2.2)∧SlS aD a.2.2.2.2.2.2.1 ((a.2.2.2.2.2.2.2.1 = a.2.2.2.2.2.2.2.1)∧(a.2.2.2.2.2.2.2.2.1 = a.2.2.2.2.2.2.2.2.1)∧(a.2.2.2.2.2.2.2.2.2 = a.2.2.2.2.2.2.2.2.2)∧(0 = x1.1.length)∧I2 x1)))))∧∀ y4 : (List (aI)) × Int,I2 y4→(Br (decide (y4.2 < (a.1.length : Int))) (Br (decide ((0 : Int)≤y4.2) && decide (y4.2 < (a.1.length : Int))) (∃ c8 : aC × (List (aB)) × aG,((((at_ a.1 y4.2).1).1) = c8.1.1.1)∧(((((at_ a.1 y4.2).1).2.1).1) = c8.1.1.2.1.1)∧(((((at_ a.1 y4.2).1).2.1).2.1) = c8.1.1.2.1.2.1)∧(((((at_ a.1 y4.2).1).2.1).2.2) = c8.1.1.2.1.2.2)∧SlQ ((((at_ a.1 y4.2).1).2.2).length) c8.1.1.2.2.length (gl aD (((at_ a.1 y4.2).1).2.2)) (gl aD c8.1.1.2.2) ((((at_ a.1 y4.2).2.1) = c8.1.2.1)∧(((at_ a.1 y4.2).2.2) = c8.1.2.2)∧SlQ a.2.1.length c8.2.1.length (gl aA a.2.1) (gl aA c8.2.1) ((a.2.2.1 = c8.2.2.1)∧(a.2.2.2.1 = c8.2.2.2.1)∧(a.2.2.2.2.1 = c8.2.2.2.2.1)∧(a.2.2.2.2.2.1.1 = c8.2.2.2.2.2.1.1)∧(a.2.2.2.2.2.1.2.1 = c8.2.2.2.2.2.1.2.1)∧(a.2.2.2.2.2.1.2.2 = c8.2.2.2.2.2.1.2.2)∧SlQ a.2.2.2.2.2.2.1.length c8.2.2.2.2.2.2.1.length (gl aD a.2.2.2.2.2.2.1) (gl aD c8.2.2.2.2.2.2.1) ((a.2.2.2.2.2.2.2.1 = c8.2.2.2.2.2.2.2.1)∧(a.2.2.2.2.2.2.2.2.1 = c8.2.2.2.2.2.2.2.2.1)∧(a.2.2.2.2.2.2.2.2.2 = c8.2.2.2.2.2.2.2.2.2)∧(eK c8)∧Br ((aZ c8).2) ((y4.1.length = y4.1.length∧qA ((y4.1.length + 1) * 40))∧(Let (IntKind.i64.wrap (y4.2 + (1 : Int))) (fun v11 : Int => ∃ x12 : (List (aI)) × Int,SlS aA a.2.1 (SlQ (y4.1.length + 1) x12.1.length (f3 (gl aT y4.1) y4.1.length (fun _ => [.str (((at_ a.1 y4.2).1).1),.slice .ro 13 (((aZ c8).1).length) (gl aA ((aZ c8).1))])) (gl aT x12.1) (SlS aK a.1 (((a.1.length : Int) = (a.1.length : Int))∧(v11 = x12.2)∧(a.2.2.1 = a.2.2.1)∧(a.2.2.2.1 = a.2.2.2.1)∧(a.2.2.2.2.1 = a.2.2.2.2.1)∧(a.2.2.2.2.2.1.1 = a.2.2.2.2.2.1.1)∧(a.2.2.2.2.2.1.2.1 = a.2.2.2.2.2.1.2.1)∧(a.2.2.2.2.2.1.2.2 = a.2.2.2.2.2.1.2.2)∧SlS aD a.2.2.2.2.2.2.1 ((a.2.2.2.2.2.2.2.1 = a.2.2.2.2.2.2.2.1)∧(a.2.2.2.2.2.2.2.2.1 = a.2.2.2.2.2.2.2.2.1)∧(a.2.2.2.2.2.2.2.2.2 = a.2.2.2.2.2.2.2.2.2)∧((y4.1.length + 1) = x12.1.length)∧I2 x12∧μ3 x12 < μ3 y4))))))) (Let (IntKind.i64.wrap (y4.2 + (1 : Int))) (fun v17 : Int => ∃ x18 : (List (aI)) × Int,SlS aA a.2.1 (SlQ y4.1.length x18.1.length (gl aT y4.1) (gl aT x18.1) (SlS aK a.1 (((a.1.length : Int) = (a.1.length : Int))∧(v17 = x18.2)∧(a.2.2.1 = a.2.2.1)∧(a.2.2.2.1 = a.2.2.2.1)∧(a.2.2.2.2.1 = a.2.2.2.2.1)∧(a.2.2.2.2.2.1.1 = a.2.2.2.2.2.1.1)∧(a.2.2.2.2.2.1.2.1 = a.2.2.2.2.2.1.2.1)∧(a.2.2.2.2.2.1.2.2 = a.2.2.2.2.2.1.2.2)∧SlS aD a.2.2.2.2.2.2.1 ((a.2.2.2.2.2.2.2.1 = a.2.2.2.2.2.2.2.1)∧(a.2.2.2.2.2.2.2.2.1 = a.2.2.2.2.2.2.2.2.1)∧(a.2.2.2.2.2.2.2.2.2 = a.2.2.2.2.2.2.2.2.2)∧(y4.1.length = x18.1.length)∧I2 x18∧μ3 x18 < μ3 y4)))))))))) False) (Br ((y4.1.length : Int) == (0 : Int)) ((0 = 0)∧(ByteArray.empty = ((a8 a).1))∧SlQ 0 (((a8 a).2.1).length) cN (gl cR ((a8 a).2.1)) ((false = ((a8 a).2.2))∧True)) (∃ c30 : List (aI),SlQ y4.1.length c30.length (gl aT y4.1) (gl aT c30) ((DEqs [] [])∧(pQ c30)∧∃ c31 : List (aB),SlQ (((iN c30).2).length) c31.length (gl aA ((iN c30).2)) (gl aA c31) ((iZ c31)∧(((iN c30).1) = ((a8 a).1))∧SlQ ((eZ c31).length) (((a8 a).2.1).length) (gl cR (eZ c31)) (gl cR ((a8 a).2.1)) ((true = ((a8 a).2.2))∧True))))))
def f227.vc (a : (List (aC)) × (List (aB)) × aG) : Prop := (∃ (I2 : ((List (aI)) × Int)→Prop) (μ3 : ((List (aI)) × Int)→Nat),I2 ([],(0 : Int))∧∀ y4 : (List (aI)) × Int,I2 y4→((y4.2 < (a.1.length : Int)→((0 : Int)≤y4.2∧y4.2 < (a.1.length : Int)∧(eK ((((at_ a.1 y4.2).1),(at_ a.1 y4.2).2.1,(at_ a.1 y4.2).2.2),a.2.1,a.2.2)∧((((aZ ((((at_ a.1 y4.2).1),(at_ a.1 y4.2).2.1,(at_ a.1 y4.2).2.2),a.2.1,a.2.2)).2) = true→(y4.1.length + 1≤1073741824∧(-9223372036854775808≤(y4.2 + (1 : Int))∧(y4.2 + (1 : Int))≤9223372036854775807∧(I2 (y4.1 ++ ([(((at_ a.1 y4.2).1).1,(aZ ((((at_ a.1 y4.2).1),(at_ a.1 y4.2).2.1,(at_ a.1 y4.2).2.2),a.2.1,a.2.2)).1)]),(y4.2 + (1 : Int)))∧μ3 (y4.1 ++ ([(((at_ a.1 y4.2).1).1,(aZ ((((at_ a.1 y4.2).1),(at_ a.1 y4.2).2.1,(at_ a.1 y4.2).2.2),a.2.1,a.2.2)).1)]),(y4.2 + (1 : Int))) < μ3 y4))))∧(¬ (((aZ ((((at_ a.1 y4.2).1),(at_ a.1 y4.2).2.1,(at_ a.1 y4.2).2.2),a.2.1,a.2.2)).2) = true)→(-9223372036854775808≤(y4.2 + (1 : Int))∧(y4.2 + (1 : Int))≤9223372036854775807∧(I2 (y4.1,(y4.2 + (1 : Int)))∧μ3 (y4.1,(y4.2 + (1 : Int))) < μ3 y4)))))))∧(¬ (y4.2 < (a.1.length : Int))→(((y4.1.length : Int) = (0 : Int)→((ByteArray.empty,[],false) = a8 a))∧(¬ ((y4.1.length : Int) = (0 : Int))→(pQ y4.1∧(iZ ((iN (y4.1)).2)∧(((iN (y4.1)).1,(eZ ((iN (y4.1)).2)),true) = a8 a))))))))
set_option maxRecDepth 100000 in
set_option maxHeartbeats 2000000 in
theorem f227.of (a : (List (aC)) × (List (aB)) × aG) (h : f227.vc a) : f227.tree a := Exists.elim h (fun I2 h39_ => Exists.elim h39_ (fun μ3 h39 => ⟨I2,μ3,⟨([],(0 : Int)),SlS.mk  (slQ (Rds.nil (enc := aT)) (SlS.mk  (⟨rfl,⟨rfl,⟨rfl,⟨rfl,⟨rfl,⟨rfl,⟨rfl,⟨rfl,SlS.mk  (⟨rfl,⟨rfl,⟨rfl,⟨(bJ cN (Rds.nil (enc := aT))),h39.1⟩⟩⟩⟩)⟩⟩⟩⟩⟩⟩⟩⟩)))⟩,fun y4 h41 => br (h39.2 y4 h41) Cnd.dec (fun h5 k37 => chk k37.2.2 Cnd.ix ⟨k37.1,k37.2.1⟩ (fun h7 k26 => ⟨((((at_ a.1 y4.2).1),(at_ a.1 y4.2).2.1,(at_ a.1 y4.2).2.2),a.2.1,a.2.2),⟨rfl,⟨rfl,⟨rfl,⟨rfl,slQ (Rds.self (enc := aD)) (⟨rfl,⟨rfl,slQ (Rds.self (enc := aA)) (⟨rfl,⟨rfl,⟨rfl,⟨rfl,⟨rfl,⟨rfl,slQ (Rds.self (enc := aD)) (⟨rfl,⟨rfl,⟨rfl,⟨k26.1,br k26.2 Cnd.b (fun h9 k23 => ⟨⟨rfl,(nS k23.1 (by decide))⟩,wrapK.i64 k23.2 (fun h14 h15 k16 => ⟨(y4.1 ++ ([(((at_ a.1 y4.2).1).1,(aZ ((((at_ a.1 y4.2).1),(at_ a.1 y4.2).2.1,(at_ a.1 y4.2).2.2),a.2.1,a.2.2)).1)]),(y4.2 + (1 : Int))),SlS.mk  (slQ (Rds.app (enc := aT) (Rds.self (enc := aT)) (Rds.one (enc := aT) (DEqs.refl _))) (SlS.mk  (⟨rfl,⟨rfl,⟨rfl,⟨rfl,⟨rfl,⟨rfl,⟨rfl,⟨rfl,SlS.mk  (⟨rfl,⟨rfl,⟨rfl,⟨(bJ (f3 (gl aT y4.1) y4.1.length (fun _ => [.str (((at_ a.1 y4.2).1).1),.slice .ro 13 (((aZ ((((at_ a.1 y4.2).1),(at_ a.1 y4.2).2.1,(at_ a.1 y4.2).2.2),a.2.1,a.2.2)).1).length) (gl aA ((aZ ((((at_ a.1 y4.2).1),(at_ a.1 y4.2).2.1,(at_ a.1 y4.2).2.2),a.2.1,a.2.2)).1))])) (Rds.app (enc := aT) (Rds.self (enc := aT)) (Rds.one (enc := aT) (DEqs.refl _)))),k16⟩⟩⟩⟩)⟩⟩⟩⟩⟩⟩⟩⟩)))⟩)⟩) (fun h10 k24 => wrapK.i64 k24 (fun h20 h21 k22 => ⟨(y4.1,(y4.2 + (1 : Int))),SlS.mk  (slQ (Rds.self (enc := aT)) (SlS.mk  (⟨rfl,⟨rfl,⟨rfl,⟨rfl,⟨rfl,⟨rfl,⟨rfl,⟨rfl,SlS.mk  (⟨rfl,⟨rfl,⟨rfl,⟨(bJ (gl aT y4.1) (Rds.self (enc := aT))),k22⟩⟩⟩⟩)⟩⟩⟩⟩⟩⟩⟩⟩)))⟩))⟩⟩⟩⟩)⟩⟩⟩⟩⟩⟩)⟩⟩)⟩⟩⟩⟩⟩)) (fun h6 k38 => br k38 Cnd.eq (fun h27 k35 => ⟨rfl,⟨(congrArg (fun x : ByteArray × (List (ByteArray)) × Bool => x.1) k35 :),slQ (Rds.to (Rds.nil (enc := cR)) (congrArg (fun x : ByteArray × (List (ByteArray)) × Bool => x.2.1) k35 :)) (⟨(congrArg (fun x : ByteArray × (List (ByteArray)) × Bool => x.2.2) k35 :),trivial⟩)⟩⟩) (fun h28 k36 => ⟨y4.1,slQ (Rds.self (enc := aT)) (⟨(DEqs.refl _),⟨k36.1,⟨(iN (y4.1)).2,slQ (Rds.self (enc := aA)) (⟨k36.2.1,⟨(congrArg (fun x : ByteArray × (List (ByteArray)) × Bool => x.1) k36.2.2 :),slQ (Rds.to (Rds.self (enc := cR)) (congrArg (fun x : ByteArray × (List (ByteArray)) × Bool => x.2.1) k36.2.2 :)) (⟨(congrArg (fun x : ByteArray × (List (ByteArray)) × Bool => x.2.2) k36.2.2 :),trivial⟩)⟩⟩)⟩⟩⟩)⟩))⟩))
theorem f227.eq (a : (List (aC)) × (List (aB)) × aG) : (f227.af a).gives f227.env (f227.args a) (f227.blks a) (f227.res a) (f227.blks' a) = f227.tree a := by kernel_rfl
end Go.Abs

-- interregnum/interregnumref13.ahead
namespace Go.Abs
open Go
end Go.Abs

/- interregnum/interregnumref13.ahead -/
namespace Go.Abs
open Go
set_option linter.unusedVariables false
end Go.Abs

-- interregnum/interregnumref13.weaker
namespace Go.Abs
open Go
end Go.Abs

/- interregnum/interregnumref13.weaker -/
namespace Go.Abs
open Go
set_option linter.unusedVariables false
end Go.Abs

-- interregnum/interregnumref13.without
namespace Go.Abs
open Go
end Go.Abs

/- interregnum/interregnumref13.without -/
namespace Go.Abs
open Go
set_option linter.unusedVariables false
end Go.Abs

-- interregnum/interregnumref13.Places
namespace Go.Abs
open Go
end Go.Abs

-- interregnum/interregnumref11.Why
namespace Go.Abs
open Go
end Go.Abs

/- interregnum/interregnumref13.Places -/
namespace Go.Abs
open Go
set_option linter.unusedVariables false
end Go.Abs

-- interregnum/interregnumref13.names
namespace Go.Abs
open Go
end Go.Abs

/- interregnum/interregnumref13.names -/
namespace Go.Abs
open Go
set_option linter.unusedVariables false
end Go.Abs

-- interregnum/interregnumref13.Plan
namespace Go.Abs
open Go
end Go.Abs

/- interregnum/interregnumref13.Plan -/
namespace Go.Abs
open Go
set_option linter.unusedVariables false
end Go.Abs

-- interregnum/interregnumref13.Choose
namespace Go.Abs
open Go
end Go.Abs

/- interregnum/interregnumref13.Choose -/
namespace Go.Abs
open Go
set_option linter.unusedVariables false
end Go.Abs

/- interregnum/interregnumref11.Why -/
namespace Go.Abs
open Go
set_option linter.unusedVariables false
end Go.Abs

-- interregnum/interregnumref11.Texts
namespace Go.Abs
open Go
def f150.args (a : (List (ByteArray)) × (List (ByteArray))) : List D := [.slice .ro 1 a.1.length (gl cR a.1),.slice .ro 1 a.2.length (gl cR a.2)]
def f150.blks (a : (List (ByteArray)) × (List (ByteArray))) : List (List D) := []
def f150.res (a : (List (ByteArray)) × (List (ByteArray))) : List D := [.bool (gY a)]
def f150.blks' (a : (List (ByteArray)) × (List (ByteArray))) : List (List D) := []
def f150.C : aM := FnC f150.args f150.blks (fun a => nU a) f150.res f150.blks'
end Go.Abs

/- interregnum/interregnumref11.Texts -/
namespace Go.Abs
open Go
set_option linter.unusedVariables false
def f150.S0 (a : (List (ByteArray)) × (List (ByteArray))) (x : Int) : Tm := ⟨[.slice .ro 1 a.1.length (gl cR a.1),.slice .ro 1 a.2.length (gl cR a.2),.dead,.dead,.dead,.dead,.dead,.dead,.dead,.dead,.dead,.dead,.int .i64 (a.1.length : Int),.int .i64 x,.dead,.dead,.dead,.dead,.dead,.dead,.dead,.dead,.dead,.dead,.dead,.dead],[],[]⟩
def f150.kills (a : (List (ByteArray)) × (List (ByteArray))) : List dB := [.tell Int (f150.S0 a)]
def f150.cuts (a : (List (ByteArray)) × (List (ByteArray))) : List (Nat × Σ β : Type,β→Tm) := []
def f150.af (a : (List (ByteArray)) × (List (ByteArray))) : AF := AF.mk (.seq (.region [⟨(some 4),0,.move,[.c (.bool false)],none⟩])
 (.seq (.seq (.region [oT 6 1 .move [0],
 oT 7 2 (.len false) [6],
 oT 8 3 .move [1],
 oT 9 4 (.len false) [8],
 oT 10 5 (.bin .neq) [7,9]])
 (.cond (.t 10) (.seq (.region [⟨(some 4),6,.move,[.c (.bool false)],none⟩])
 (.ret)) (.skip)))
 (.seq (.seq (.region [oT 11 7 .move [0],
 oT 12 8 (.len false) [11],
 ⟨(some 13),9,.move,[.c (.int .i64 (0))],none⟩])
 (.block 0 (.loopT Int (f150.S0 a) 10 25 (.seq (.region [oT 14 10 (.bin .lss) [13,12]])
 (.seq (.cond (.t 14) (.skip) (.exit 0))
 (.seq (.block 1 (.seq (.region [oT 15 11 .move [13],
 oT 5 12 .move [15]])
 (.seq (.region [oT 16 13 .move [0],
 oT 17 14 .move [5],
 oT 18 15 (.indexAddr 1 none) [16,17],
 oT 19 16 (.load false 1) [18],
 oT 20 17 .move [1],
 oT 21 18 .move [5],
 oT 22 19 (.indexAddr 1 none) [20,21],
 oT 23 20 (.load false 1) [22],
 oT 24 21 (.bin .neq) [19,23]])
 (.cond (.t 24) (.seq (.region [⟨(some 4),22,.move,[.c (.bool false)],none⟩])
 (.ret)) (.skip)))))
 (.region [⟨(some 25),23,(.bin .add),[.t 13,.c (.int .i64 (1))],none⟩,
 oT 13 24 .move [25]])))))))
 (.seq (.region [⟨(some 4),25,.move,[.c (.bool true)],none⟩])
 (.ret)))))
 [.tmp 4] 0 24
def f150.env : Env := []
def f150.tree (a : (List (ByteArray)) × (List (ByteArray))) : Prop := Br ((a.1.length : Int) != (a.2.length : Int)) ((false = (gY a))∧True) (∃ (I5 : Int→Prop) (μ6 : Int→Nat),(∃ x4 : Int,SlS cR a.1 (SlS cR a.2 (((a.1.length : Int) = (a.1.length : Int))∧((0 : Int) = x4)∧I5 x4)))∧∀ y7 : Int,I5 y7→(Br (decide (y7 < (a.1.length : Int))) (Br (decide ((0 : Int)≤y7) && decide (y7 < (a.1.length : Int))) (Br (decide ((0 : Int)≤y7) && decide (y7 < (a.2.length : Int))) (Br (!((at_ a.1 y7).toList == (at_ a.2 y7).toList)) ((false = (gY a))∧True) (Let (IntKind.i64.wrap (y7 + (1 : Int))) (fun v15 : Int => ∃ x16 : Int,SlS cR a.1 (SlS cR a.2 (((a.1.length : Int) = (a.1.length : Int))∧(v15 = x16)∧I5 x16∧μ6 x16 < μ6 y7))))) False) False) ((true = (gY a))∧True)))
def f150.vc (a : (List (ByteArray)) × (List (ByteArray))) : Prop := ((¬ (a.1.length : Int) = (a.2.length : Int)→(false = gY a))∧(¬ (¬ (a.1.length : Int) = (a.2.length : Int))→(∃ (I5 : Int→Prop) (μ6 : Int→Nat),I5 (0 : Int)∧∀ y7 : Int,I5 y7→((y7 < (a.1.length : Int)→((0 : Int)≤y7∧y7 < (a.1.length : Int)∧((0 : Int)≤y7∧y7 < (a.2.length : Int)∧((¬ ((at_ a.1 y7) = (at_ a.2 y7))→(false = gY a))∧(¬ (¬ ((at_ a.1 y7) = (at_ a.2 y7)))→(-9223372036854775808≤(y7 + (1 : Int))∧(y7 + (1 : Int))≤9223372036854775807∧(I5 (y7 + (1 : Int))∧μ6 (y7 + (1 : Int)) < μ6 y7)))))))∧(¬ (y7 < (a.1.length : Int))→(true = gY a))))))
set_option maxRecDepth 100000 in
set_option maxHeartbeats 2000000 in
theorem f150.of (a : (List (ByteArray)) × (List (ByteArray))) (h : f150.vc a) : f150.tree a := br h Cnd.ne (fun h1 k31 => ⟨k31,trivial⟩) (fun h2 k32 => Exists.elim k32 (fun I5 h28_ => Exists.elim h28_ (fun μ6 h28 => ⟨I5,μ6,⟨(0 : Int),SlS.mk  (SlS.mk  (⟨rfl,⟨rfl,h28.1⟩⟩))⟩,fun y7 h30 => br (h28.2 y7 h30) Cnd.dec (fun h8 k26 => chk k26.2.2 Cnd.ix ⟨k26.1,k26.2.1⟩ (fun h10 k24 => chk k24.2.2 Cnd.ix ⟨k24.1,k24.2.1⟩ (fun h11 k23 => br k23 (Cnd.not Cnd.seq) (fun h12 k21 => ⟨k21,trivial⟩) (fun h13 k22 => wrapK.i64 k22 (fun h18 h19 k20 => ⟨(y7 + (1 : Int)),SlS.mk  (SlS.mk  (⟨rfl,⟨rfl,k20⟩⟩))⟩))))) (fun h9 k27 => ⟨k27,trivial⟩)⟩)))
theorem f150.eq (a : (List (ByteArray)) × (List (ByteArray))) : (f150.af a).gives f150.env (f150.args a) (f150.blks a) (f150.res a) (f150.blks' a) = f150.tree a := by kernel_rfl
end Go.Abs

/- The machine from which jobs go,and the document's answers: what the code asks is so. -/
namespace Go.Abs
open Go

theorem f150.ok (a : List ByteArray × List ByteArray) (h : nU a) : f150.vc a := by
 obtain ⟨l,m⟩ := a
 have h1 : l.length ≤ 1048576 := h.1
 refine ⟨fun c => ?_,fun c => ?_⟩
 ·unfold gY
  refine (decide_eq_false fun e => c ?_).symm
  simp only at e ⊢
  rw [e]
 ·have hl : l.length = m.length := by
   have := Classical.not_not.1 c
   simp only at this
   omega
  refine ⟨fun y => 0 ≤ y ∧ y ≤ (l.length : Int) ∧ ∀ k,k < y.toNat → l.getD k default = m.getD k default,fun y => l.length - y.toNat,⟨by omega,by omega,fun k hk => by simp at hk⟩,fun y hy => ?_⟩
  obtain ⟨g0,g1,g2⟩ := hy
  simp only
  refine ⟨fun hlt => ⟨g0,hlt,g0,by omega,fun c => ?_,fun c => ⟨by omega,by omega,⟨by omega,by omega,fun k hk => ?_⟩,by omega⟩⟩,fun hge => ?_⟩
  ·unfold gY
   refine (decide_eq_false fun e => c ?_).symm
   simp only at e
   rw [e]
  ·by_cases he : k = y.toNat
   ·subst he; exact Classical.not_not.1 c
   ·exact g2 k (by omega)
  ·unfold gY
   exact (decide_eq_true (fL hl fun k hk => g2 k (by omega))).symm

theorem f252.ok (a : b8) (h : oA a) : f252.vc a := by
 have h : a.2.length ≤ 1048576 := h
 refine ⟨fun c => ?_,fun c => ⟨by omega,by omega,by omega,by omega,?_⟩⟩
 ·unfold dY
  rw [if_pos (by omega)]
 ·unfold dY
  rw [if_neg (by omega)]

theorem f245.ok (a : b8 × b8) (h : lV a) : f245.vc a := ⟨h.1,h.2,by unfold jY; simp,rfl⟩

theorem qS (x : b8) : ∀ (l : List b8) (m : b8),eT m (l ++ [x]) = if fG (x,eT m l) < 0 then x else eT m l
 | [],m => rfl
 | y :: l,m => by
  rw [List.cons_append,eT,eT]
  exact qS x l _

theorem q9 (x : b8) {l : List b8} (h : l ≠ []) : iN (l ++ [x]) = if fG (x,iN l) < 0 then x else iN l := by
 cases l with
 | nil => exact absurd rfl h
 | cons y l => exact qS x l y

theorem kK {α : Type} [Inhabited α] {l : List α} {i : Nat} (h : i < l.length) : l.take (i + 1) = l.take i ++ [l.getD i default] := by
 rw [iA h,List.take_succ_eq_append_getElem h]

theorem f244.ok (a : List b8) (h : pQ a) : f244.vc a := by
 obtain ⟨h1,h2,h3⟩ := h
 have h2 : a.length ≤ 1048576 := h2
 refine ⟨fun c => by omega,fun _ => ⟨by omega,?_⟩⟩
 refine ⟨fun y => 1 ≤ y.1 ∧ y.1 ≤ (a.length : Int) ∧ y.2 = iN (a.take y.1.toNat) ∧ y.2 ∈ a,fun y => a.length - y.1.toNat,⟨by simp only; omega,by simp only; omega,?_,?_⟩,fun y hy => ?_⟩
 ·cases a with
  | nil => simp at h1
  | cons x l => rfl
 ·exact kV (l := a) (i := 0) h1
 ·obtain ⟨i,o⟩ := y
  obtain ⟨g1,g2,g3,g4⟩ := hy
  simp only at g1 g2 g3 g4 ⊢
  have hne : a.take i.toNat ≠ [] := fun e => by
   have := congrArg List.length e
   rw [List.length_take,List.length_nil] at this
   omega
  have step : i < (a.length : Int) → iN (a.take (i + 1).toNat) = if fG (at_ a i,o) < 0 then at_ a i else o := fun hlt => by
   rw [show (i + 1).toNat = i.toNat + 1 from by omega,kK (by omega),q9 _ hne,← g3]
   rfl
  refine ⟨fun hlt => ⟨by omega,hlt,⟨h3 _ (kV (l := a) (i := i.toNat) (by omega)),h3 _ g4⟩,fun c => ⟨by omega,by omega,by omega,by omega,⟨by omega,by omega,?_,?_⟩,by omega⟩,fun c => ⟨by omega,by omega,⟨by omega,by omega,?_,g4⟩,by omega⟩⟩,fun hge => ?_⟩
  ·rw [step hlt,if_pos c]
  ·exact kV (l := a) (by omega)
  ·rw [step hlt,if_neg c]
  ·rw [g3,List.take_of_length_le (by omega)]

theorem aFF (a : bO × List bZ × bT) : (aZ a).1.length ≤ a.2.1.length := by
 have h2 := tJ a
 unfold aZ
 split
 ·simp
 ·split
  ·simp
  ·split
   ·simp only [List.length_take]
    omega
   ·simp

theorem lO (l m : List bO) (b : List bZ × bT) : bI (l ++ m,b) = bI (l,b) ++ bI (m,b) := by
 unfold bI
 rw [List.filter_append,List.map_append]

theorem lL (m : bO) (b : List bZ × bT) : bI ([m],b) = if (aZ (m,b)).2 = true then [(m.1.1,(aZ (m,b)).1)] else [] := by
 unfold bI
 by_cases h : (aZ (m,b)).2 = true
 ·rw [if_pos h,List.filter_cons_of_pos (p := fun x : bO => (aZ (x,([m],b).2)).2) h]
  rfl
 ·rw [if_neg h,List.filter_cons_of_neg (p := fun x : bO => (aZ (x,([m],b).2)).2) h]
  rfl

theorem oD {a : List bO × List bZ × bT} (h : bI a ≠ []) : a8 a = ((iN (bI a)).1,eZ (iN (bI a)).2,true) := by
 unfold a8
 cases hh : bI a with
 | nil => exact absurd hh h
 | cons x l => rfl

theorem qR {a : List bO × List bZ × bT} (h : L20 a.2.1) : ∀ o ∈ bI a,L20 o.2 := by
 intro o ho
 obtain ⟨m,_,rfl⟩ := List.mem_map.1 ho
 exact Nat.le_trans (aFF _) h

theorem f227.ok (a : List bO × List bZ × bT) (h : fC a) : f227.vc a := by
 obtain ⟨l,jobs,t⟩ := a
 obtain ⟨h1,h2⟩ := h
 have h1 : l.length ≤ 1048576 := h1
 refine ⟨fun y => 0 ≤ y.2 ∧ y.2 ≤ (l.length : Int) ∧ y.1 = bI (l.take y.2.toNat,jobs,t) ∧ y.1.length ≤ y.2.toNat,fun y => l.length - y.2.toNat,⟨by simp only; omega,by simp only; omega,rfl,Nat.le_refl _⟩,fun y hy => ?_⟩
 obtain ⟨out,i⟩ := y
 obtain ⟨g0,g1,g2,g3⟩ := hy
 simp only at g0 g1 g2 g3 ⊢
 have step : i < (l.length : Int) → bI (l.take (i + 1).toNat,jobs,t) = out ++ if (aZ (at_ l i,jobs,t)).2 = true then [((at_ l i).1.1,(aZ (at_ l i,jobs,t)).1)] else [] := fun hlt => by
  rw [show (i + 1).toNat = i.toNat + 1 from by omega,kK (by omega),lO,lL,← g2]
  rfl
 refine ⟨fun hlt => ⟨g0,hlt,h2 _ (kV (l := l) (i := i.toNat) (by omega)),fun c => ⟨by omega,by omega,by omega,⟨by omega,by omega,?_,?_⟩,by omega⟩,fun c => ⟨by omega,by omega,⟨by omega,by omega,?_,by omega⟩,by omega⟩⟩,fun hge => ?_⟩
 ·rw [step hlt,if_pos c]
 ·rw [List.length_append,List.length_singleton]
  omega
 ·rw [step hlt,if_neg c,List.append_nil]
 ·rw [List.take_of_length_le (by omega)] at g2
  subst g2
  refine ⟨fun c => ?_,fun c => ?_⟩
  ·have : bI (l,jobs,t) = [] := List.eq_nil_of_length_eq_zero (by omega)
   unfold a8
   rw [this]
  ·have hne : bI (l,jobs,t) ≠ [] := fun e => by rw [e] at c; exact c rfl
   have hj : L20 jobs := by
    cases l with
    | nil => exact absurd rfl hne
    | cons m l => exact (h2 m (by simp)).1
   have hpos : 0 < (bI (l,jobs,t)).length := List.length_pos_iff.2 hne
   have small := qR (a := (l,jobs,t)) hj
   refine ⟨⟨hpos,by unfold L20; omega,small⟩,small _ ?_,(oD hne).symm⟩
   exact minV_mem hne
where
 minV_mem {l : List b8} (h : l ≠ []) : iN l ∈ l := by
  cases l with
  | nil => exact absurd rfl h
  | cons x l => exact minFrom_mem l x
 minFrom_mem : ∀ (l : List b8) (m : b8),eT m l ∈ m :: l
  | [],m => by simp [eT]
  | x :: l,m => by
   rw [eT]
   have := minFrom_mem l (if fG (x,m) < 0 then x else m)
   rcases List.mem_cons.1 this with h | h
   ·rw [h]
    split <;> simp
   ·simp [h]

structure ChI (l : List bO) (b : List bZ × bT) (best many top i : Int) : Prop where
 i0 : 0 ≤ i
 i1 : i ≤ (l.length : Int)
 none : best < 0 ↔ bI (l.take i.toNat,b) = []
 some : 0 ≤ best → best < i ∧ (aZ (at_ l best,b)).2 = true ∧ iN (bI (l.take i.toNat,b)) = ((at_ l best).1.1,(aZ (at_ l best,b)).1) ∧ many = ((aZ (at_ l best,b)).1.length : Int) ∧ top = dY ((at_ l best).1.1,(aZ (at_ l best,b)).1)

theorem ChI.skip {l : List bO} {b : List bZ × bT} {best many top i : Int} (h : ChI l b best many top i) (hlt : i < (l.length : Int)) (c : ¬ (aZ (at_ l i,b)).2 = true) : ChI l b best many top (i + 1) := by
 have h0 := h.i0
 have e : bI (l.take (i + 1).toNat,b) = bI (l.take i.toNat,b) := by
  rw [show (i + 1).toNat = i.toNat + 1 from by omega,kK (by omega),lO,lL,if_neg (show ¬ (aZ (l.getD i.toNat default,b)).2 = true from c),List.append_nil]
 refine ⟨by omega,by omega,by rw [e]; exact h.none,fun hb => ?_⟩
 rw [e]
 have := h.some hb
 exact ⟨by omega,this.2⟩

theorem ChI.take {l : List bO} {b : List bZ × bT} {best many top i : Int} (h : ChI l b best many top i) (hlt : i < (l.length : Int)) (c : (aZ (at_ l i,b)).2 = true) (hb : best < 0 ∨ fG (((at_ l i).1.1,(aZ (at_ l i,b)).1),((at_ l best).1.1,(aZ (at_ l best,b)).1)) < 0) {many' top' : Int}
  (e1 : many' = ((aZ (at_ l i,b)).1.length : Int)) (e2 : top' = dY ((at_ l i).1.1,(aZ (at_ l i,b)).1)) : ChI l b i many' top' (i + 1) := by
 have h0 := h.i0
 have e : bI (l.take (i + 1).toNat,b) = bI (l.take i.toNat,b) ++ [((at_ l i).1.1,(aZ (at_ l i,b)).1)] := by
  rw [show (i + 1).toNat = i.toNat + 1 from by omega,kK (by omega),lO,lL,if_pos (show (aZ (l.getD i.toNat default,b)).2 = true from c)]
  rfl
 refine ⟨by omega,by omega,⟨fun hh => by omega,fun hh => by rw [e] at hh; simp at hh⟩,fun _ => ⟨by omega,c,?_,e1,e2⟩⟩
 rw [e]
 by_cases hn : bI (l.take i.toNat,b) = []
 ·rw [hn]
  rfl
 ·have hb0 : 0 ≤ best := by
   by_cases hh : best < 0
   ·exact absurd (h.none.1 hh) hn
   ·omega
  rw [q9 _ hn,(h.some hb0).2.2.1,if_pos (hb.resolve_left (by omega))]

theorem ChI.keep {l : List bO} {b : List bZ × bT} {best many top i : Int} (h : ChI l b best many top i) (hlt : i < (l.length : Int)) (c : (aZ (at_ l i,b)).2 = true) (hb0 : ¬ best < 0) (hb : ¬ fG (((at_ l i).1.1,(aZ (at_ l i,b)).1),((at_ l best).1.1,(aZ (at_ l best,b)).1)) < 0) : ChI l b best many top (i + 1) := by
 have h0 := h.i0
 have e : bI (l.take (i + 1).toNat,b) = bI (l.take i.toNat,b) ++ [((at_ l i).1.1,(aZ (at_ l i,b)).1)] := by
  rw [show (i + 1).toNat = i.toNat + 1 from by omega,kK (by omega),lO,lL,if_pos (show (aZ (l.getD i.toNat default,b)).2 = true from c)]
  rfl
 have hn : bI (l.take i.toNat,b) ≠ [] := fun hh => hb0 (h.none.2 hh)
 obtain ⟨q1,q2,q3,q4,q5⟩ := h.some (by omega)
 refine ⟨by omega,by omega,⟨fun hh => absurd hh hb0,fun hh => by rw [e] at hh; simp at hh⟩,fun _ => ⟨by omega,q2,?_,q4,q5⟩⟩
 rw [e,q9 _ hn,q3,if_neg hb]

theorem o6 (x y : b8) : fG (x,y) < 0 ↔ (x.2.length : Int) < y.2.length ∨ ((x.2.length : Int) = y.2.length ∧ (dY x < dY y ∨ (dY x = dY y ∧ sLt x.1 y.1))) := by
 have ht : kE (x.1,y.1) < 0 ↔ sLt x.1 y.1 := by
  unfold kE
  by_cases h : sLt x.1 y.1
  ·have h' : Op.bytesLess x.1.toList y.1.toList = true := h
   rw [if_pos h']
   exact ⟨fun _ => h,fun _ => by decide⟩
  ·have h' : ¬ Op.bytesLess x.1.toList y.1.toList = true := h
   rw [if_neg h']
   refine ⟨fun hh => ?_,fun hh => absurd hh h⟩
   split at hh <;> omega
 unfold fG
 simp only [orI]
 generalize kE (x.1,y.1) = ct at ht
 unfold eX
 simp only
 by_cases h1 : (x.2.length : Int) < y.2.length
 ·rw [if_pos h1,if_neg (by decide)]
  exact ⟨fun _ => .inl h1,fun _ => by decide⟩
 ·rw [if_neg h1]
  by_cases h2 : (y.2.length : Int) < x.2.length
  ·rw [if_pos h2,if_neg (by decide)]
   exact ⟨fun hh => by omega,fun hh => by omega⟩
  ·rw [if_neg h2,if_pos rfl]
   have h3 : (x.2.length : Int) = y.2.length := by omega
   by_cases h4 : dY x < dY y
   ·rw [if_pos h4,if_neg (by decide)]
    exact ⟨fun _ => .inr ⟨h3,.inl h4⟩,fun _ => by decide⟩
   ·rw [if_neg h4]
    by_cases h5 : dY y < dY x
    ·rw [if_pos h5,if_neg (by decide)]
     exact ⟨fun hh => by omega,fun hh => by omega⟩
    ·rw [if_neg h5,if_pos rfl]
     have h6 : dY x = dY y := by omega
     have e : (if ct = 0 then (0 : Int) else ct) < 0 ↔ ct < 0 := by split <;> omega
     rw [e,ht]
     exact ⟨fun hh => .inr ⟨h3,.inr ⟨h6,hh⟩⟩,fun hh => by
      rcases hh with hh | ⟨_,hh | ⟨_,hh⟩⟩
      ·omega
      ·omega
      ·exact hh⟩

end Go.Abs
