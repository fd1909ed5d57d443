/- Functions, and what the code asks of them: PVict2. -/
import Derived.KernelRfl
import Derived.Test.YtabnaedcnfkmiaeBa1eb4fe3
import Derived.Test.YtabnaedcnfkmiaeB7f17cbe2
import Derived.Test.YtabnaedcnfkmiaeB632c19ef
import Derived.Test.YtabnaedcnfkmiaeBde28f8a9
import Derived.Test.YtabnaedcnfkmiaeB2000ad9d
import Derived.Test.YtabnaedcnfkmiaeB1bc422e5
import Derived.Test.YtabnaedcnfkmiaeBd10b95f7
import Derived.Test.YtabnaedcnfkmiaeB87382551
import Derived.Test.YtabnaedcnfkmiaeB29fee5fc
import Derived.Test.YtabnaedcnfkmiaeB2a1a747c
import Derived.Test.YtabnaedcnfkmiaeBa90dc016
import Derived.Test.YtabnaedcnfkmiaeB4f237585
import Derived.Test.YtabnaedcnfkmiaeBad4bdd15
set_option linter.unusedVariables false
set_option linter.unusedSimpArgs false
/- The machine from which jobs go; and the document's answers. -/
namespace Go.Abs
open Go

def cmpT (a : ByteArray × ByteArray) : Int := if Op.bytesLess a.1.toList a.2.toList = true then -1 else if a.1 = a.2 then 0 else 1
abbrev TOffer := ByteArray × List TJob
def topV (o : TOffer) : Int := if o.2.length = 0 then -1 else (at_ o.2 ((o.2.length : Int) - 1)).1.2.2.1
def top_pre (o : TOffer) : Prop := L20 o.2
def cmpOff (c : TOffer × TOffer) : Int := orI [cmpI ((c.1.2.length : Int),(c.2.2.length : Int)),cmpI (topV c.1,topV c.2),cmpT (c.1.1,c.2.1)]
def cmpOff_pre (c : TOffer × TOffer) : Prop := L20 c.1.2 ∧ L20 c.2.2
def minFrom (m : TOffer) : List TOffer → TOffer
  | [] => m
  | x :: l => minFrom (if cmpOff (x,m) < 0 then x else m) l
def minV : List TOffer → TOffer
  | [] => default
  | x :: l => minFrom x l
def minV_pre (l : List TOffer) : Prop := 0 < l.length ∧ L20 l ∧ ∀ o ∈ l,L20 o.2
def offersV (a : List TMach × List TJob × TTask) : List TOffer := (a.1.filter fun m => (goneV (m,a.2)).2).map fun m => (m.1.1,(goneV (m,a.2)).1)
def choose_pre (a : List TMach × List TJob × TTask) : Prop := L20 a.1 ∧ ∀ m ∈ a.1,why_pre (m,a.2)
def chooseV (a : List TMach × List TJob × TTask) : ByteArray × List ByteArray × Bool :=
  match offersV a with
  | [] => (ByteArray.empty,[],false)
  | x :: l => ((minFrom x l).1,namesV (minFrom x l).2,true)
def textsV (a : List ByteArray × List ByteArray) : Bool := decide (a.1 = a.2)
def texts_pre (a : List ByteArray × List ByteArray) : Prop := L20 a.1 ∧ L20 a.2
end Go.Abs

-- (interregnum/victim.offer).top
namespace Go.Abs
open Go
def f252.args (a : T_victim_offer) : List D := [.agg [.str a.1,.slice .ro 13 a.2.length (gl e_api_Job a.2)]]
def f252.blks (a : T_victim_offer) : List (List D) := []
def f252.res (a : T_victim_offer) : List D := [.int .i64 (topV a)]
def f252.blks' (a : T_victim_offer) : List (List D) := []
def f252.C : Contract := FnC f252.args f252.blks (fun a => top_pre a) f252.res f252.blks'
end Go.Abs

/- (interregnum/victim.offer).top -/
namespace Go.Abs
open Go
set_option linter.unusedVariables false
def f252.kills (a : T_victim_offer) : List Hint := []
def f252.cuts (a : T_victim_offer) : List (Nat × Σ β : Type,β→Tm) := []
def f252.af (a : T_victim_offer) : AF := AF.mk (.seq (.region [oT 1 0 .box [0],
 ⟨(some 2),1,.move,[.c (.int .i64 (0))],none⟩])
 (.seq (.seq (.region [oT 3 2 (.fieldAddr 1) [1],
 oT 4 3 (.load false 1) [3],
 oT 5 4 (.len false) [4],
 ⟨(some 6),5,(.bin .eql),[.t 5,.c (.int .i64 (0))],none⟩])
 (.cond (.t 6) (.seq (.region [⟨(some 2),6,.move,[.c (.int .i64 (-1))],none⟩])
 (.ret)) (.skip)))
 (.seq (.region [oT 7 7 (.fieldAddr 1) [1],
 oT 8 8 (.load false 1) [7],
 oT 9 9 (.fieldAddr 1) [1],
 oT 10 10 (.load false 1) [9],
 oT 11 11 (.len false) [10],
 ⟨(some 12),12,(.bin .sub),[.t 11,.c (.int .i64 (1))],none⟩,
 oT 13 13 (.indexAddr 13 none) [8,12],
 oT 14 14 (.fieldAddr 0) [13],
 oT 15 15 (.fieldAddr 2) [14],
 oT 16 16 (.load false 1) [15],
 oT 2 17 .move [16]])
 (.ret))))
 [.tmp 2] 0 16
def f252.env : Env := []
def f252.tree (a : T_victim_offer) : Prop := Br ((a.2.length : Int) == (0 : Int)) (((-1 : Int) = (topV a))∧True) (Let (IntKind.i64.wrap ((a.2.length : Int) - (1 : Int))) (fun v4 : Int => Br (decide ((0 : Int)≤v4) && decide (v4 < (a.2.length : Int))) (((((at_ a.2 v4).1).2.2.1) = (topV a))∧True) False))
def f252.vc (a : T_victim_offer) : Prop := (((a.2.length : Int) = (0 : Int)→((-1 : Int) = topV a))∧(¬ ((a.2.length : Int) = (0 : Int))→(-9223372036854775808≤((a.2.length : Int) - (1 : Int))∧((a.2.length : Int) - (1 : Int))≤9223372036854775807∧((0 : Int)≤((a.2.length : Int) - (1 : Int))∧((a.2.length : Int) - (1 : Int)) < (a.2.length : Int)∧(((at_ a.2 ((a.2.length : Int) - (1 : Int))).1).2.2.1 = topV a)))))
set_option maxRecDepth 100000 in
set_option maxHeartbeats 2000000 in
theorem f252.of (a : T_victim_offer) (h : f252.vc a) : f252.tree a := br h Cnd.eq (fun h1 k11 => ⟨k11,trivial⟩) (fun h2 k12 => wrapK.i64 k12 (fun h8 h9 k10 => chk k10.2.2 Cnd.ix ⟨k10.1,k10.2.1⟩ (fun h5 k7 => ⟨k7,trivial⟩)))
theorem f252.eq (a : T_victim_offer) : (f252.af a).gives f252.env (f252.args a) (f252.blks a) (f252.res a) (f252.blks' a) = f252.tree a := by kernel_rfl
end Go.Abs

-- interregnum/victim.compare
namespace Go.Abs
open Go
def f245.args (a : T_victim_offer × T_victim_offer) : List D := [.agg [.str a.1.1,.slice .ro 13 a.1.2.length (gl e_api_Job a.1.2)],.agg [.str a.2.1,.slice .ro 13 a.2.2.length (gl e_api_Job a.2.2)]]
def f245.blks (a : T_victim_offer × T_victim_offer) : List (List D) := []
def f245.res (a : T_victim_offer × T_victim_offer) : List D := [.int .i64 (cmpOff a)]
def f245.blks' (a : T_victim_offer × T_victim_offer) : List (List D) := []
def f245.C : Contract := FnC f245.args f245.blks (fun a => cmpOff_pre a) f245.res f245.blks'
end Go.Abs

-- cmp.Compare[string]
namespace Go.Abs
open Go
def f176.args (a : ByteArray × ByteArray) : List D := [.str a.1,.str a.2]
def f176.blks (a : ByteArray × ByteArray) : List (List D) := []
def f176.res (a : ByteArray × ByteArray) : List D := [.int .i64 (cmpT a)]
def f176.blks' (a : ByteArray × ByteArray) : List (List D) := []
def f176.C : Contract := FnC f176.args f176.blks (fun _ => True) f176.res f176.blks'
end Go.Abs

/- interregnum/victim.compare -/
namespace Go.Abs
open Go
set_option linter.unusedVariables false
def f245.kills (a : T_victim_offer × T_victim_offer) : List Hint := []
def f245.cuts (a : T_victim_offer × T_victim_offer) : List (Nat × Σ β : Type,β→Tm) := []
def f245.af (a : T_victim_offer × T_victim_offer) : AF := AF.mk (.seq (.region [oT 2 0 .box [0],
 oT 3 1 .box [1],
 ⟨(some 4),2,.move,[.c (.int .i64 (0))],none⟩])
 (.seq (.region [oT 5 3 (.fieldAddr 1) [2],
 oT 6 4 (.load false 1) [5],
 oT 7 5 (.len false) [6],
 oT 8 6 (.fieldAddr 1) [3],
 oT 9 7 (.load false 1) [8],
 oT 10 8 (.len false) [9],
 oT 11 9 (.call false 130) [7,10],
 oT 12 13 (.load true 2) [2],
 oT 13 14 (.call false 252) [12],
 oT 14 18 (.load true 2) [3],
 oT 15 19 (.call false 252) [14],
 oT 16 23 (.call false 130) [13,15],
 oT 17 27 (.fieldAddr 0) [2],
 oT 18 28 (.load false 1) [17],
 oT 19 29 (.fieldAddr 0) [3],
 oT 20 30 (.load false 1) [19],
 oT 21 31 (.call false 176) [18,20],
 oT 22 35 (.buildSlice 1 3 [.int .i64 (0)] [(0,1),(1,1),(2,1)]) [11,16,21],
 oT 23 36 (.call false 129) [22],
 oT 4 40 .move [23]])
 (.ret)))
 [.tmp 4] 0 22
def f245.env : Env := [(130,f130.C),(252,f252.C),(176,f176.C),(129,f129.C)]
def f245.tree (a : T_victim_offer × T_victim_offer) : Prop := ∃ c1 : Int × Int,((a.1.2.length : Int) = c1.1)∧((a.2.2.length : Int) = c1.2)∧True∧∃ c2 : T_victim_offer,(a.1.1 = c2.1)∧SlQ a.1.2.length c2.2.length (gl e_api_Job a.1.2) (gl e_api_Job c2.2) ((top_pre c2)∧∃ c3 : T_victim_offer,(a.2.1 = c3.1)∧SlQ a.2.2.length c3.2.length (gl e_api_Job a.2.2) (gl e_api_Job c3.2) ((top_pre c3)∧∃ c4 : Int × Int,((topV c2) = c4.1)∧((topV c3) = c4.2)∧True∧∃ c5 : ByteArray × ByteArray,(a.1.1 = c5.1)∧(a.2.1 = c5.2)∧True∧∃ c6 : List (Int),SlQ 3 c6.length (fun j => List.take 1 (List.drop (j * 1) [.int .i64 (cmpI c1),.int .i64 (cmpI c4),.int .i64 (cmpT c5)])) (gl e_i64 c6) ((orI_pre c6)∧((orI c6) = (cmpOff a))∧True)))
def f245.vc (a : T_victim_offer × T_victim_offer) : Prop := (top_pre a.1∧(top_pre a.2∧(orI_pre ([(cmpI ((a.1.2.length : Int),(a.2.2.length : Int))),(cmpI ((topV (a.1)),(topV (a.2)))),(cmpT (a.1.1,a.2.1))])∧((orI ([(cmpI ((a.1.2.length : Int),(a.2.2.length : Int))),(cmpI ((topV (a.1)),(topV (a.2)))),(cmpT (a.1.1,a.2.1))])) = cmpOff a))))
set_option maxRecDepth 100000 in
set_option maxHeartbeats 2000000 in
theorem f245.of (a : T_victim_offer × T_victim_offer) (h : f245.vc a) : f245.tree a := ⟨((a.1.2.length : Int),(a.2.2.length : Int)),⟨rfl,⟨rfl,⟨trivial,⟨a.1,⟨rfl,slQ (Rds.self (enc := e_api_Job)) (⟨h.1,⟨a.2,⟨rfl,slQ (Rds.self (enc := e_api_Job)) (⟨h.2.1,⟨((topV (a.1)),(topV (a.2))),⟨rfl,⟨rfl,⟨trivial,⟨(a.1.1,a.2.1),⟨rfl,⟨rfl,⟨trivial,⟨[(cmpI ((a.1.2.length : Int),(a.2.2.length : Int))),(cmpI ((topV (a.1)),(topV (a.2)))),(cmpT (a.1.1,a.2.1))],slQ (Rds.row (enc := e_i64) ⟨rfl,fun i hi => by repeat (first | rfl | exact absurd hi (Nat.not_lt.2 (Nat.le_add_left 3 _)) | (cases i with | zero => rfl | succ i => ?_))⟩) (⟨h.2.2.1,⟨h.2.2.2,trivial⟩⟩)⟩⟩⟩⟩⟩⟩⟩⟩⟩⟩)⟩⟩⟩)⟩⟩⟩⟩⟩⟩
theorem f245.eq (a : T_victim_offer × T_victim_offer) : (f245.af a).gives f245.env (f245.args a) (f245.blks a) (f245.res a) (f245.blks' a) = f245.tree a := by kernel_rfl
end Go.Abs

-- slices.MinFunc[[]interregnum/victim.offer,interregnum/victim.offer]
namespace Go.Abs
open Go
def f244.args (a : List (T_victim_offer)) : List D := [.slice .ro 2 a.length (gl e_victim_offer a),.fn 245 []]
def f244.blks (a : List (T_victim_offer)) : List (List D) := []
def f244.res (a : List (T_victim_offer)) : List D := [.agg [.str ((minV a).1),.slice .ro 13 (((minV a).2).length) (gl e_api_Job ((minV a).2))]]
def f244.blks' (a : List (T_victim_offer)) : List (List D) := []
def f244.C : Contract := FnC f244.args f244.blks (fun a => minV_pre a) f244.res f244.blks'
end Go.Abs

/- slices.MinFunc[[]interregnum/victim.offer,interregnum/victim.offer] -/
namespace Go.Abs
open Go
set_option linter.unusedVariables false
def f244.S0 (a : List (T_victim_offer)) (x : Int × ByteArray × (List (T_api_Job))) : Tm := ⟨[.slice .ro 2 a.length (gl e_victim_offer a),.fn 245 [],.dead,.dead,.ptr 0 0,.ptr 11 0,.int .i64 x.1,.dead,.dead,.dead,.dead,.dead,.dead,.dead,.dead,.dead,.dead,.dead,.dead,.dead,.dead,.dead,.dead,.dead,.dead,.dead,.dead,.dead,.dead,.dead,.dead,.dead,.dead],[(0,false,[.str ByteArray.empty,.slice (.own 2) 13 0 gnil]),(11,false,[.str x.2.1,.slice .ro 13 x.2.2.length (gl e_api_Job x.2.2)])],[(2,13,0)]⟩
def f244.kills (a : List (T_victim_offer)) : List Hint := [.tell (Int × ByteArray × (List (T_api_Job))) (f244.S0 a)]
def f244.cuts (a : List (T_victim_offer)) : List (Nat × Σ β : Type,β→Tm) := []
def f244.af (a : List (T_victim_offer)) : AF := AF.mk (.seq (.region [oT 4 0 (.alloc [.str ByteArray.empty,.slice (.own 0) 13 0 gnil]) []])
 (.seq (.seq (.region [oT 7 3 .move [0],
 oT 8 4 (.len false) [7],
 ⟨(some 9),5,(.bin .lss),[.t 8,.c (.int .i64 (1))],none⟩])
 (.cond (.t 9) (.region [oT 10 6 .stuck [],
 ⟨none,7,.stuck,[],none⟩]) (.skip)))
 (.seq (.region [oT 11 8 .move [0],
 ⟨(some 12),9,(.indexAddr 2 none),[.t 11,.c (.int .i64 (0))],none⟩,
 oT 13 10 (.load true 2) [12],
 oT 5 11 (.alloc [.str ByteArray.empty,.slice (.own 0) 13 0 gnil]) [],
 ⟨none,14,(.store 2),[.t 5,.t 13],none⟩])
 (.seq (.seq (.region [⟨(some 6),15,.move,[.c (.int .i64 (1))],none⟩])
 (.block 0 (.loopT (Int × ByteArray × (List (T_api_Job))) (f244.S0 a) 16 39 (.seq (.seq (.region [oT 14 16 .move [6],
 oT 15 17 .move [0],
 oT 16 18 (.len false) [15],
 oT 17 19 (.bin .lss) [14,16]])
 (.cond (.t 17) (.skip) (.exit 0)))
 (.seq (.block 1 (.seq (.region [oT 20 20 .move [1],
 oT 21 21 .move [0],
 oT 22 22 .move [6],
 oT 23 23 (.indexAddr 2 none) [21,22],
 oT 24 24 (.load true 2) [23],
 oT 25 25 (.load true 2) [5],
 oT 26 26 (.callv false) [20,24,25],
 ⟨(some 27),30,(.bin .lss),[.t 26,.c (.int .i64 (0))],none⟩])
 (.cond (.t 27) (.region [oT 28 31 .move [0],
 oT 29 32 .move [6],
 oT 30 33 (.indexAddr 2 none) [28,29],
 oT 31 34 (.load true 2) [30],
 ⟨none,35,(.store 2),[.t 5,.t 31],none⟩]) (.skip))))
 (.region [oT 18 36 .move [6],
 ⟨(some 19),37,(.bin .add),[.t 18,.c (.int .i64 (1))],none⟩,
 oT 6 38 .move [19]]))))))
 (.seq (.region [oT 32 39 (.load true 2) [5],
 ⟨none,40,(.store 2),[.t 4,.t 32],none⟩])
 (.ret))))))
 [.cell 4 true 2] 0 31
def f244.env : Env := [(245,f245.C)]
def f244.tree (a : List (T_victim_offer)) : Prop := Br (decide ((a.length : Int) < (1 : Int))) (False) (Br (decide ((0 : Int)≤(0 : Int)) && decide ((0 : Int) < (a.length : Int))) (∃ (I5 : (Int × ByteArray × (List (T_api_Job)))→Prop) (μ6 : (Int × ByteArray × (List (T_api_Job)))→Nat),(∃ x4 : Int × ByteArray × (List (T_api_Job)),SlS e_victim_offer a ((DEqs [] [])∧((1 : Int) = x4.1)∧(ByteArray.empty = ByteArray.empty)∧SlQ 0 0 gnil gnil ((((at_ a (0 : Int)).1) = x4.2.1)∧SlQ (((at_ a (0 : Int)).2).length) x4.2.2.length (gl e_api_Job ((at_ a (0 : Int)).2)) (gl e_api_Job x4.2.2) ((0 = 0)∧I5 x4))))∧∀ y7 : Int × ByteArray × (List (T_api_Job)),I5 y7→(Br (decide (y7.1 < (a.length : Int))) (Br (decide ((0 : Int)≤y7.1) && decide (y7.1 < (a.length : Int))) (∃ c11 : T_victim_offer × T_victim_offer,(((at_ a y7.1).1) = c11.1.1)∧SlQ (((at_ a y7.1).2).length) c11.1.2.length (gl e_api_Job ((at_ a y7.1).2)) (gl e_api_Job c11.1.2) ((y7.2.1 = c11.2.1)∧SlQ y7.2.2.length c11.2.2.length (gl e_api_Job y7.2.2) (gl e_api_Job c11.2.2) ((cmpOff_pre c11)∧Br (decide ((cmpOff c11) < (0 : Int))) (Br (decide ((0 : Int)≤y7.1) && decide (y7.1 < (a.length : Int))) (Let (IntKind.i64.wrap (y7.1 + (1 : Int))) (fun v15 : Int => ∃ x16 : Int × ByteArray × (List (T_api_Job)),SlS e_victim_offer a ((DEqs [] [])∧(v15 = x16.1)∧(ByteArray.empty = ByteArray.empty)∧SlQ 0 0 gnil gnil ((((at_ a y7.1).1) = x16.2.1)∧SlQ (((at_ a y7.1).2).length) x16.2.2.length (gl e_api_Job ((at_ a y7.1).2)) (gl e_api_Job x16.2.2) ((0 = 0)∧I5 x16∧μ6 x16 < μ6 y7))))) False) (Let (IntKind.i64.wrap (y7.1 + (1 : Int))) (fun v22 : Int => ∃ x23 : Int × ByteArray × (List (T_api_Job)),SlS e_victim_offer a ((DEqs [] [])∧(v22 = x23.1)∧(ByteArray.empty = ByteArray.empty)∧SlQ 0 0 gnil gnil ((y7.2.1 = x23.2.1)∧SlQ y7.2.2.length x23.2.2.length (gl e_api_Job y7.2.2) (gl e_api_Job x23.2.2) ((0 = 0)∧I5 x23∧μ6 x23 < μ6 y7)))))))) False) ((y7.2.1 = ((minV a).1))∧SlQ y7.2.2.length (((minV a).2).length) (gl e_api_Job y7.2.2) (gl e_api_Job ((minV a).2)) (True)))) False)
def f244.vc (a : List (T_victim_offer)) : Prop := (((a.length : Int) < (1 : Int)→False)∧(¬ ((a.length : Int) < (1 : Int))→((0 : Int) < (a.length : Int)∧(∃ (I5 : (Int × ByteArray × (List (T_api_Job)))→Prop) (μ6 : (Int × ByteArray × (List (T_api_Job)))→Nat),I5 ((1 : Int),(at_ a (0 : Int)).1,(at_ a (0 : Int)).2)∧∀ y7 : Int × ByteArray × (List (T_api_Job)),I5 y7→((y7.1 < (a.length : Int)→((0 : Int)≤y7.1∧y7.1 < (a.length : Int)∧(cmpOff_pre ((at_ a y7.1),y7.2)∧(((cmpOff ((at_ a y7.1),y7.2)) < (0 : Int)→((0 : Int)≤y7.1∧y7.1 < (a.length : Int)∧(-9223372036854775808≤(y7.1 + (1 : Int))∧(y7.1 + (1 : Int))≤9223372036854775807∧(I5 ((y7.1 + (1 : Int)),(at_ a y7.1).1,(at_ a y7.1).2)∧μ6 ((y7.1 + (1 : Int)),(at_ a y7.1).1,(at_ a y7.1).2) < μ6 y7))))∧(¬ ((cmpOff ((at_ a y7.1),y7.2)) < (0 : Int))→(-9223372036854775808≤(y7.1 + (1 : Int))∧(y7.1 + (1 : Int))≤9223372036854775807∧(I5 ((y7.1 + (1 : Int)),y7.2.1,y7.2.2)∧μ6 ((y7.1 + (1 : Int)),y7.2.1,y7.2.2) < μ6 y7)))))))∧(¬ (y7.1 < (a.length : Int))→(y7.2 = minV a)))))))
set_option maxRecDepth 100000 in
set_option maxHeartbeats 2000000 in
theorem f244.of (a : List (T_victim_offer)) (h : f244.vc a) : f244.tree a := br h Cnd.dec (fun h1 k39 => k39) (fun h2 k40 => chk k40.2 Cnd.ix ⟨(by decide),k40.1⟩ (fun h3 k38 => Exists.elim k38 (fun I5 h35_ => Exists.elim h35_ (fun μ6 h35 => ⟨I5,μ6,⟨((1 : Int),(at_ a (0 : Int)).1,(at_ a (0 : Int)).2),SlS.mk  (⟨(DEqs.refl _),⟨rfl,⟨rfl,slQ ⟨rfl,fun _ _ => DEqs.refl _⟩ (⟨rfl,slQ (Rds.self (enc := e_api_Job)) (⟨rfl,h35.1⟩)⟩)⟩⟩⟩)⟩,fun y7 h37 => br (h35.2 y7 h37) Cnd.dec (fun h8 k33 => chk k33.2.2 Cnd.ix ⟨k33.1,k33.2.1⟩ (fun h10 k31 => ⟨((at_ a y7.1),y7.2),⟨rfl,slQ (Rds.self (enc := e_api_Job)) (⟨rfl,slQ (Rds.self (enc := e_api_Job)) (⟨k31.1,br k31.2 Cnd.dec (fun h12 k28 => chk k28.2.2 Cnd.ix ⟨k28.1,k28.2.1⟩ (fun h14 k21 => wrapK.i64 k21 (fun h18 h19 k20 => ⟨((y7.1 + (1 : Int)),(at_ a y7.1).1,(at_ a y7.1).2),SlS.mk  (⟨(DEqs.refl _),⟨rfl,⟨rfl,slQ ⟨rfl,fun _ _ => DEqs.refl _⟩ (⟨rfl,slQ (Rds.self (enc := e_api_Job)) (⟨rfl,k20⟩)⟩)⟩⟩⟩)⟩))) (fun h13 k29 => wrapK.i64 k29 (fun h25 h26 k27 => ⟨((y7.1 + (1 : Int)),y7.2.1,y7.2.2),SlS.mk  (⟨(DEqs.refl _),⟨rfl,⟨rfl,slQ ⟨rfl,fun _ _ => DEqs.refl _⟩ (⟨rfl,slQ (Rds.self (enc := e_api_Job)) (⟨rfl,k27⟩)⟩)⟩⟩⟩)⟩))⟩)⟩)⟩⟩)) (fun h9 k34 => ⟨(congrArg (fun x : T_victim_offer => x.1) k34 :),slQ (Rds.to (Rds.self (enc := e_api_Job)) (congrArg (fun x : T_victim_offer => x.2) k34 :)) (trivial)⟩)⟩))))
theorem f244.eq (a : List (T_victim_offer)) : (f244.af a).gives f244.env (f244.args a) (f244.blks a) (f244.res a) (f244.blks' a) = f244.tree a := by kernel_rfl
end Go.Abs

-- interregnum/victim.Choose
namespace Go.Abs
open Go
def f227.args (a : (List (T_api_Machine)) × (List (T_api_Job)) × T_api_Task) : List D := [.slice .ro 7 a.1.length (gl e_api_Machine a.1),.slice .ro 13 a.2.1.length (gl e_api_Job a.2.1),.agg [.str a.2.2.1,.str a.2.2.2.1,.int .i64 a.2.2.2.2.1,.int .i64 a.2.2.2.2.2.1.1,.int .i64 a.2.2.2.2.2.1.2.1,.int .i64 a.2.2.2.2.2.1.2.2,.slice .ro 2 a.2.2.2.2.2.2.1.length (gl e_api_Label a.2.2.2.2.2.2.1),.str a.2.2.2.2.2.2.2.1,.str a.2.2.2.2.2.2.2.2.1,.int .i64 a.2.2.2.2.2.2.2.2.2]]
def f227.blks (a : (List (T_api_Machine)) × (List (T_api_Job)) × T_api_Task) : List (List D) := []
def f227.res (a : (List (T_api_Machine)) × (List (T_api_Job)) × T_api_Task) : List D := [.str ((chooseV a).1),.slice .ro 1 (((chooseV a).2.1).length) (gl e_str ((chooseV a).2.1)),.bool ((chooseV a).2.2)]
def f227.blks' (a : (List (T_api_Machine)) × (List (T_api_Job)) × T_api_Task) : List (List D) := []
def f227.C : Contract := FnC f227.args f227.blks (fun a => choose_pre a) f227.res f227.blks'
end Go.Abs

/- interregnum/victim.Choose -/
namespace Go.Abs
open Go
set_option linter.unusedVariables false
def f227.S0 (a : (List (T_api_Machine)) × (List (T_api_Job)) × T_api_Task) (x : (List (T_victim_offer)) × Int) : Tm := ⟨[.dead,.slice .ro 13 a.2.1.length (gl e_api_Job a.2.1),.dead,.dead,.dead,.ptr 0 0,.dead,.dead,.dead,.slice (.own 4) 2 x.1.length (gl e_victim_offer x.1),.dead,.dead,.dead,.dead,.dead,.slice .ro 7 a.1.length (gl e_api_Machine a.1),.int .i64 (a.1.length : Int),.int .i64 x.2,.dead,.dead,.dead,.dead,.dead,.dead,.dead,.dead,.dead,.dead,.dead,.dead,.dead,.dead,.dead,.dead,.dead,.dead,.dead,.dead,.dead,.dead,.dead,.dead,.dead,.dead,.dead,.dead,.dead,.dead],[(0,false,[.str a.2.2.1,.str a.2.2.2.1,.int .i64 a.2.2.2.2.1,.int .i64 a.2.2.2.2.2.1.1,.int .i64 a.2.2.2.2.2.1.2.1,.int .i64 a.2.2.2.2.2.1.2.2,.slice .ro 2 a.2.2.2.2.2.2.1.length (gl e_api_Label a.2.2.2.2.2.2.1),.str a.2.2.2.2.2.2.2.1,.str a.2.2.2.2.2.2.2.2.1,.int .i64 a.2.2.2.2.2.2.2.2.2])],[(4,2,x.1.length)]⟩
def f227.kills (a : (List (T_api_Machine)) × (List (T_api_Job)) × T_api_Task) : List Hint := [.tell ((List (T_victim_offer)) × Int) (f227.S0 a)]
def f227.cuts (a : (List (T_api_Machine)) × (List (T_api_Job)) × T_api_Task) : List (Nat × Σ β : Type,β→Tm) := []
def f227.af (a : (List (T_api_Machine)) × (List (T_api_Job)) × T_api_Task) : AF := AF.mk (.seq (.region [oT 5 0 .box [2],
 ⟨(some 6),1,.move,[.c (.str ByteArray.empty)],none⟩,
 oT 7 2 (.nilSl 1) [],
 ⟨(some 8),3,.move,[.c (.bool false)],none⟩])
 (.seq (.region [oT 9 4 (.nilSl 2) []])
 (.seq (.seq (.region [oT 15 5 .move [0],
 oT 16 6 (.len false) [15],
 ⟨(some 17),7,.move,[.c (.int .i64 (0))],none⟩])
 (.block 0 (.loopT ((List (T_victim_offer)) × Int) (f227.S0 a) 8 44 (.seq (.region [oT 18 8 (.bin .lss) [17,16]])
 (.seq (.cond (.t 18) (.skip) (.exit 0))
 (.seq (.block 1 (.seq (.region [oT 19 9 (.indexAddr 7 none) [15,17],
 oT 20 10 (.load true 7) [19],
 oT 11 11 (.alloc [.str ByteArray.empty,.int .i64 (0),.int .i64 (0),.int .i64 (0),.slice (.own 0) 2 0 gnil,.bool false,.int .i64 (0)]) [],
 ⟨none,19,(.store 7),[.t 11,.t 20],none⟩])
 (.seq (.region [oT 22 20 (.load true 7) [11],
 oT 23 21 .move [1],
 oT 24 22 (.load true 10) [5],
 oT 25 23 (.call false 243) [22,23,24],
 oT 21 27 .move [25],
 oT 26 28 (.extract 0) [21],
 oT 27 29 (.extract 1) [21],
 oT 12 30 .move [26],
 oT 13 31 .move [27]])
 (.seq (.region [oT 28 32 .move [13]])
 (.cond (.t 28) (.region [oT 29 33 .move [9],
 oT 30 34 (.fieldAddr 0) [11],
 oT 31 35 (.fieldAddr 0) [30],
 oT 32 36 (.load false 1) [31],
 oT 33 37 .move [12],
 oT 34 38 (.build [.str ByteArray.empty,.slice .full 13 0 gnil] [(0,1),(1,1)]) [32,33],
 oT 35 39 (.buildSlice 2 1 [.str ByteArray.empty,.slice .full 13 0 gnil] [(0,2)]) [34],
 oT 36 40 (.append 2 40) [29,35],
 oT 9 41 .move [36]]) (.skip))))))
 (.region [⟨(some 37),42,(.bin .add),[.t 17,.c (.int .i64 (1))],none⟩,
 oT 17 43 .move [37]])))))))
 (.seq (.seq (.region [oT 38 44 .move [9],
 oT 39 45 (.len false) [38],
 ⟨(some 40),46,(.bin .eql),[.t 39,.c (.int .i64 (0))],none⟩])
 (.cond (.t 40) (.seq (.region [⟨(some 6),47,.move,[.c (.str ByteArray.empty)],none⟩,
 oT 7 48 (.nilSl 1) [],
 ⟨(some 8),49,.move,[.c (.bool false)],none⟩])
 (.ret)) (.skip)))
 (.seq (.region [oT 41 50 .move [9],
 ⟨(some 42),51,(.call false 244),[.t 41,.c (.fn 245 [])],none⟩,
 oT 14 55 (.alloc [.str ByteArray.empty,.slice (.own 0) 13 0 gnil]) [],
 ⟨none,58,(.store 2),[.t 14,.t 42],none⟩])
 (.seq (.region [oT 43 59 (.fieldAddr 0) [14],
 oT 44 60 (.load false 1) [43],
 oT 45 61 (.fieldAddr 1) [14],
 oT 46 62 (.load false 1) [45],
 oT 47 63 (.call false 246) [46],
 oT 6 67 .move [44],
 oT 7 68 .move [47],
 ⟨(some 8),69,.move,[.c (.bool true)],none⟩])
 (.ret)))))))
 [.tmp 6,.tmp 7,.tmp 8] 0 45
def f227.env : Env := [(243,f243.C),(244,f244.C),(246,f246.C)]
def f227.tree (a : (List (T_api_Machine)) × (List (T_api_Job)) × T_api_Task) : Prop := ∃ (I2 : ((List (T_victim_offer)) × Int)→Prop) (μ3 : ((List (T_victim_offer)) × Int)→Nat),(∃ x1 : (List (T_victim_offer)) × Int,SlS e_api_Job a.2.1 (SlQ 0 x1.1.length gnil (gl e_victim_offer x1.1) (SlS e_api_Machine a.1 (((a.1.length : Int) = (a.1.length : Int))∧((0 : Int) = x1.2)∧(a.2.2.1 = a.2.2.1)∧(a.2.2.2.1 = a.2.2.2.1)∧(a.2.2.2.2.1 = a.2.2.2.2.1)∧(a.2.2.2.2.2.1.1 = a.2.2.2.2.2.1.1)∧(a.2.2.2.2.2.1.2.1 = a.2.2.2.2.2.1.2.1)∧(a.2.2.2.2.2.1.2.2 = a.2.2.2.2.2.1.2.2)∧SlS e_api_Label a.2.2.2.2.2.2.1 ((a.2.2.2.2.2.2.2.1 = a.2.2.2.2.2.2.2.1)∧(a.2.2.2.2.2.2.2.2.1 = a.2.2.2.2.2.2.2.2.1)∧(a.2.2.2.2.2.2.2.2.2 = a.2.2.2.2.2.2.2.2.2)∧(0 = x1.1.length)∧I2 x1)))))∧∀ y4 : (List (T_victim_offer)) × Int,I2 y4→(Br (decide (y4.2 < (a.1.length : Int))) (Br (decide ((0 : Int)≤y4.2) && decide (y4.2 < (a.1.length : Int))) (∃ c8 : T_api_Machine × (List (T_api_Job)) × T_api_Task,((((at_ a.1 y4.2).1).1) = c8.1.1.1)∧(((((at_ a.1 y4.2).1).2.1).1) = c8.1.1.2.1.1)∧(((((at_ a.1 y4.2).1).2.1).2.1) = c8.1.1.2.1.2.1)∧(((((at_ a.1 y4.2).1).2.1).2.2) = c8.1.1.2.1.2.2)∧SlQ ((((at_ a.1 y4.2).1).2.2).length) c8.1.1.2.2.length (gl e_api_Label (((at_ a.1 y4.2).1).2.2)) (gl e_api_Label c8.1.1.2.2) ((((at_ a.1 y4.2).2.1) = c8.1.2.1)∧(((at_ a.1 y4.2).2.2) = c8.1.2.2)∧SlQ a.2.1.length c8.2.1.length (gl e_api_Job a.2.1) (gl e_api_Job c8.2.1) ((a.2.2.1 = c8.2.2.1)∧(a.2.2.2.1 = c8.2.2.2.1)∧(a.2.2.2.2.1 = c8.2.2.2.2.1)∧(a.2.2.2.2.2.1.1 = c8.2.2.2.2.2.1.1)∧(a.2.2.2.2.2.1.2.1 = c8.2.2.2.2.2.1.2.1)∧(a.2.2.2.2.2.1.2.2 = c8.2.2.2.2.2.1.2.2)∧SlQ a.2.2.2.2.2.2.1.length c8.2.2.2.2.2.2.1.length (gl e_api_Label a.2.2.2.2.2.2.1) (gl e_api_Label c8.2.2.2.2.2.2.1) ((a.2.2.2.2.2.2.2.1 = c8.2.2.2.2.2.2.2.1)∧(a.2.2.2.2.2.2.2.2.1 = c8.2.2.2.2.2.2.2.2.1)∧(a.2.2.2.2.2.2.2.2.2 = c8.2.2.2.2.2.2.2.2.2)∧(why_pre c8)∧Br ((goneV c8).2) ((y4.1.length = y4.1.length∧room ((y4.1.length + 1) * 40))∧(Let (IntKind.i64.wrap (y4.2 + (1 : Int))) (fun v11 : Int => ∃ x12 : (List (T_victim_offer)) × Int,SlS e_api_Job a.2.1 (SlQ (y4.1.length + 1) x12.1.length (gapp (gl e_victim_offer y4.1) y4.1.length (fun _ => [.str (((at_ a.1 y4.2).1).1),.slice .ro 13 (((goneV c8).1).length) (gl e_api_Job ((goneV c8).1))])) (gl e_victim_offer x12.1) (SlS e_api_Machine a.1 (((a.1.length : Int) = (a.1.length : Int))∧(v11 = x12.2)∧(a.2.2.1 = a.2.2.1)∧(a.2.2.2.1 = a.2.2.2.1)∧(a.2.2.2.2.1 = a.2.2.2.2.1)∧(a.2.2.2.2.2.1.1 = a.2.2.2.2.2.1.1)∧(a.2.2.2.2.2.1.2.1 = a.2.2.2.2.2.1.2.1)∧(a.2.2.2.2.2.1.2.2 = a.2.2.2.2.2.1.2.2)∧SlS e_api_Label a.2.2.2.2.2.2.1 ((a.2.2.2.2.2.2.2.1 = a.2.2.2.2.2.2.2.1)∧(a.2.2.2.2.2.2.2.2.1 = a.2.2.2.2.2.2.2.2.1)∧(a.2.2.2.2.2.2.2.2.2 = a.2.2.2.2.2.2.2.2.2)∧((y4.1.length + 1) = x12.1.length)∧I2 x12∧μ3 x12 < μ3 y4))))))) (Let (IntKind.i64.wrap (y4.2 + (1 : Int))) (fun v17 : Int => ∃ x18 : (List (T_victim_offer)) × Int,SlS e_api_Job a.2.1 (SlQ y4.1.length x18.1.length (gl e_victim_offer y4.1) (gl e_victim_offer x18.1) (SlS e_api_Machine a.1 (((a.1.length : Int) = (a.1.length : Int))∧(v17 = x18.2)∧(a.2.2.1 = a.2.2.1)∧(a.2.2.2.1 = a.2.2.2.1)∧(a.2.2.2.2.1 = a.2.2.2.2.1)∧(a.2.2.2.2.2.1.1 = a.2.2.2.2.2.1.1)∧(a.2.2.2.2.2.1.2.1 = a.2.2.2.2.2.1.2.1)∧(a.2.2.2.2.2.1.2.2 = a.2.2.2.2.2.1.2.2)∧SlS e_api_Label a.2.2.2.2.2.2.1 ((a.2.2.2.2.2.2.2.1 = a.2.2.2.2.2.2.2.1)∧(a.2.2.2.2.2.2.2.2.1 = a.2.2.2.2.2.2.2.2.1)∧(a.2.2.2.2.2.2.2.2.2 = a.2.2.2.2.2.2.2.2.2)∧(y4.1.length = x18.1.length)∧I2 x18∧μ3 x18 < μ3 y4)))))))))) False) (Br ((y4.1.length : Int) == (0 : Int)) ((0 = 0)∧(ByteArray.empty = ((chooseV a).1))∧SlQ 0 (((chooseV a).2.1).length) gnil (gl e_str ((chooseV a).2.1)) ((false = ((chooseV a).2.2))∧True)) (∃ c30 : List (T_victim_offer),SlQ y4.1.length c30.length (gl e_victim_offer y4.1) (gl e_victim_offer c30) ((DEqs [] [])∧(minV_pre c30)∧∃ c31 : List (T_api_Job),SlQ (((minV c30).2).length) c31.length (gl e_api_Job ((minV c30).2)) (gl e_api_Job c31) ((names_pre c31)∧(((minV c30).1) = ((chooseV a).1))∧SlQ ((namesV c31).length) (((chooseV a).2.1).length) (gl e_str (namesV c31)) (gl e_str ((chooseV a).2.1)) ((true = ((chooseV a).2.2))∧True))))))
def f227.vc (a : (List (T_api_Machine)) × (List (T_api_Job)) × T_api_Task) : Prop := (∃ (I2 : ((List (T_victim_offer)) × Int)→Prop) (μ3 : ((List (T_victim_offer)) × Int)→Nat),I2 ([],(0 : Int))∧∀ y4 : (List (T_victim_offer)) × Int,I2 y4→((y4.2 < (a.1.length : Int)→((0 : Int)≤y4.2∧y4.2 < (a.1.length : Int)∧(why_pre ((((at_ a.1 y4.2).1),(at_ a.1 y4.2).2.1,(at_ a.1 y4.2).2.2),a.2.1,a.2.2)∧((((goneV ((((at_ a.1 y4.2).1),(at_ a.1 y4.2).2.1,(at_ a.1 y4.2).2.2),a.2.1,a.2.2)).2) = true→(y4.1.length + 1≤1073741824∧(-9223372036854775808≤(y4.2 + (1 : Int))∧(y4.2 + (1 : Int))≤9223372036854775807∧(I2 (y4.1 ++ ([(((at_ a.1 y4.2).1).1,(goneV ((((at_ a.1 y4.2).1),(at_ a.1 y4.2).2.1,(at_ a.1 y4.2).2.2),a.2.1,a.2.2)).1)]),(y4.2 + (1 : Int)))∧μ3 (y4.1 ++ ([(((at_ a.1 y4.2).1).1,(goneV ((((at_ a.1 y4.2).1),(at_ a.1 y4.2).2.1,(at_ a.1 y4.2).2.2),a.2.1,a.2.2)).1)]),(y4.2 + (1 : Int))) < μ3 y4))))∧(¬ (((goneV ((((at_ a.1 y4.2).1),(at_ a.1 y4.2).2.1,(at_ a.1 y4.2).2.2),a.2.1,a.2.2)).2) = true)→(-9223372036854775808≤(y4.2 + (1 : Int))∧(y4.2 + (1 : Int))≤9223372036854775807∧(I2 (y4.1,(y4.2 + (1 : Int)))∧μ3 (y4.1,(y4.2 + (1 : Int))) < μ3 y4)))))))∧(¬ (y4.2 < (a.1.length : Int))→(((y4.1.length : Int) = (0 : Int)→((ByteArray.empty,[],false) = chooseV a))∧(¬ ((y4.1.length : Int) = (0 : Int))→(minV_pre y4.1∧(names_pre ((minV (y4.1)).2)∧(((minV (y4.1)).1,(namesV ((minV (y4.1)).2)),true) = chooseV a))))))))
set_option maxRecDepth 100000 in
set_option maxHeartbeats 2000000 in
theorem f227.of (a : (List (T_api_Machine)) × (List (T_api_Job)) × T_api_Task) (h : f227.vc a) : f227.tree a := Exists.elim h (fun I2 h39_ => Exists.elim h39_ (fun μ3 h39 => ⟨I2,μ3,⟨([],(0 : Int)),SlS.mk  (slQ (Rds.nil (enc := e_victim_offer)) (SlS.mk  (⟨rfl,⟨rfl,⟨rfl,⟨rfl,⟨rfl,⟨rfl,⟨rfl,⟨rfl,SlS.mk  (⟨rfl,⟨rfl,⟨rfl,⟨(numR gnil (Rds.nil (enc := e_victim_offer))),h39.1⟩⟩⟩⟩)⟩⟩⟩⟩⟩⟩⟩⟩)))⟩,fun y4 h41 => br (h39.2 y4 h41) Cnd.dec (fun h5 k37 => chk k37.2.2 Cnd.ix ⟨k37.1,k37.2.1⟩ (fun h7 k26 => ⟨((((at_ a.1 y4.2).1),(at_ a.1 y4.2).2.1,(at_ a.1 y4.2).2.2),a.2.1,a.2.2),⟨rfl,⟨rfl,⟨rfl,⟨rfl,slQ (Rds.self (enc := e_api_Label)) (⟨rfl,⟨rfl,slQ (Rds.self (enc := e_api_Job)) (⟨rfl,⟨rfl,⟨rfl,⟨rfl,⟨rfl,⟨rfl,slQ (Rds.self (enc := e_api_Label)) (⟨rfl,⟨rfl,⟨rfl,⟨k26.1,br k26.2 Cnd.b (fun h9 k23 => ⟨⟨rfl,(room_of k23.1 (by decide))⟩,wrapK.i64 k23.2 (fun h14 h15 k16 => ⟨(y4.1 ++ ([(((at_ a.1 y4.2).1).1,(goneV ((((at_ a.1 y4.2).1),(at_ a.1 y4.2).2.1,(at_ a.1 y4.2).2.2),a.2.1,a.2.2)).1)]),(y4.2 + (1 : Int))),SlS.mk  (slQ (Rds.app (enc := e_victim_offer) (Rds.self (enc := e_victim_offer)) (Rds.one (enc := e_victim_offer) (DEqs.refl _))) (SlS.mk  (⟨rfl,⟨rfl,⟨rfl,⟨rfl,⟨rfl,⟨rfl,⟨rfl,⟨rfl,SlS.mk  (⟨rfl,⟨rfl,⟨rfl,⟨(numR (gapp (gl e_victim_offer y4.1) y4.1.length (fun _ => [.str (((at_ a.1 y4.2).1).1),.slice .ro 13 (((goneV ((((at_ a.1 y4.2).1),(at_ a.1 y4.2).2.1,(at_ a.1 y4.2).2.2),a.2.1,a.2.2)).1).length) (gl e_api_Job ((goneV ((((at_ a.1 y4.2).1),(at_ a.1 y4.2).2.1,(at_ a.1 y4.2).2.2),a.2.1,a.2.2)).1))])) (Rds.app (enc := e_victim_offer) (Rds.self (enc := e_victim_offer)) (Rds.one (enc := e_victim_offer) (DEqs.refl _)))),k16⟩⟩⟩⟩)⟩⟩⟩⟩⟩⟩⟩⟩)))⟩)⟩) (fun h10 k24 => wrapK.i64 k24 (fun h20 h21 k22 => ⟨(y4.1,(y4.2 + (1 : Int))),SlS.mk  (slQ (Rds.self (enc := e_victim_offer)) (SlS.mk  (⟨rfl,⟨rfl,⟨rfl,⟨rfl,⟨rfl,⟨rfl,⟨rfl,⟨rfl,SlS.mk  (⟨rfl,⟨rfl,⟨rfl,⟨(numR (gl e_victim_offer y4.1) (Rds.self (enc := e_victim_offer))),k22⟩⟩⟩⟩)⟩⟩⟩⟩⟩⟩⟩⟩)))⟩))⟩⟩⟩⟩)⟩⟩⟩⟩⟩⟩)⟩⟩)⟩⟩⟩⟩⟩)) (fun h6 k38 => br k38 Cnd.eq (fun h27 k35 => ⟨rfl,⟨(congrArg (fun x : ByteArray × (List (ByteArray)) × Bool => x.1) k35 :),slQ (Rds.to (Rds.nil (enc := e_str)) (congrArg (fun x : ByteArray × (List (ByteArray)) × Bool => x.2.1) k35 :)) (⟨(congrArg (fun x : ByteArray × (List (ByteArray)) × Bool => x.2.2) k35 :),trivial⟩)⟩⟩) (fun h28 k36 => ⟨y4.1,slQ (Rds.self (enc := e_victim_offer)) (⟨(DEqs.refl _),⟨k36.1,⟨(minV (y4.1)).2,slQ (Rds.self (enc := e_api_Job)) (⟨k36.2.1,⟨(congrArg (fun x : ByteArray × (List (ByteArray)) × Bool => x.1) k36.2.2 :),slQ (Rds.to (Rds.self (enc := e_str)) (congrArg (fun x : ByteArray × (List (ByteArray)) × Bool => x.2.1) k36.2.2 :)) (⟨(congrArg (fun x : ByteArray × (List (ByteArray)) × Bool => x.2.2) k36.2.2 :),trivial⟩)⟩⟩)⟩⟩⟩)⟩))⟩))
theorem f227.eq (a : (List (T_api_Machine)) × (List (T_api_Job)) × T_api_Task) : (f227.af a).gives f227.env (f227.args a) (f227.blks a) (f227.res a) (f227.blks' a) = f227.tree a := by kernel_rfl
end Go.Abs

-- interregnum/interregnumref13.ahead
namespace Go.Abs
open Go
end Go.Abs

/- interregnum/interregnumref13.ahead -/
namespace Go.Abs
open Go
set_option linter.unusedVariables false
end Go.Abs

-- interregnum/interregnumref13.weaker
namespace Go.Abs
open Go
end Go.Abs

/- interregnum/interregnumref13.weaker -/
namespace Go.Abs
open Go
set_option linter.unusedVariables false
end Go.Abs

-- interregnum/interregnumref13.without
namespace Go.Abs
open Go
end Go.Abs

/- interregnum/interregnumref13.without -/
namespace Go.Abs
open Go
set_option linter.unusedVariables false
end Go.Abs

-- interregnum/interregnumref13.Places
namespace Go.Abs
open Go
end Go.Abs

-- interregnum/interregnumref11.Why
namespace Go.Abs
open Go
end Go.Abs

/- interregnum/interregnumref13.Places -/
namespace Go.Abs
open Go
set_option linter.unusedVariables false
end Go.Abs

-- interregnum/interregnumref13.names
namespace Go.Abs
open Go
end Go.Abs

/- interregnum/interregnumref13.names -/
namespace Go.Abs
open Go
set_option linter.unusedVariables false
end Go.Abs

-- interregnum/interregnumref13.Plan
namespace Go.Abs
open Go
end Go.Abs

/- interregnum/interregnumref13.Plan -/
namespace Go.Abs
open Go
set_option linter.unusedVariables false
end Go.Abs

-- interregnum/interregnumref13.Choose
namespace Go.Abs
open Go
end Go.Abs

/- interregnum/interregnumref13.Choose -/
namespace Go.Abs
open Go
set_option linter.unusedVariables false
end Go.Abs

-- interregnum/interregnumref11.Texts
namespace Go.Abs
open Go
def f150.args (a : (List (ByteArray)) × (List (ByteArray))) : List D := [.slice .ro 1 a.1.length (gl e_str a.1),.slice .ro 1 a.2.length (gl e_str a.2)]
def f150.blks (a : (List (ByteArray)) × (List (ByteArray))) : List (List D) := []
def f150.res (a : (List (ByteArray)) × (List (ByteArray))) : List D := [.bool (textsV a)]
def f150.blks' (a : (List (ByteArray)) × (List (ByteArray))) : List (List D) := []
def f150.C : Contract := FnC f150.args f150.blks (fun a => texts_pre a) f150.res f150.blks'
end Go.Abs

/- interregnum/interregnumref11.Texts -/
namespace Go.Abs
open Go
set_option linter.unusedVariables false
def f150.S0 (a : (List (ByteArray)) × (List (ByteArray))) (x : Int) : Tm := ⟨[.slice .ro 1 a.1.length (gl e_str a.1),.slice .ro 1 a.2.length (gl e_str a.2),.dead,.dead,.dead,.dead,.dead,.dead,.dead,.dead,.dead,.dead,.int .i64 (a.1.length : Int),.int .i64 x,.dead,.dead,.dead,.dead,.dead,.dead,.dead,.dead,.dead,.dead,.dead,.dead],[],[]⟩
def f150.kills (a : (List (ByteArray)) × (List (ByteArray))) : List Hint := [.tell Int (f150.S0 a)]
def f150.cuts (a : (List (ByteArray)) × (List (ByteArray))) : List (Nat × Σ β : Type,β→Tm) := []
def f150.af (a : (List (ByteArray)) × (List (ByteArray))) : AF := AF.mk (.seq (.region [⟨(some 4),0,.move,[.c (.bool false)],none⟩])
 (.seq (.seq (.region [oT 6 1 .move [0],
 oT 7 2 (.len false) [6],
 oT 8 3 .move [1],
 oT 9 4 (.len false) [8],
 oT 10 5 (.bin .neq) [7,9]])
 (.cond (.t 10) (.seq (.region [⟨(some 4),6,.move,[.c (.bool false)],none⟩])
 (.ret)) (.skip)))
 (.seq (.seq (.region [oT 11 7 .move [0],
 oT 12 8 (.len false) [11],
 ⟨(some 13),9,.move,[.c (.int .i64 (0))],none⟩])
 (.block 0 (.loopT Int (f150.S0 a) 10 25 (.seq (.region [oT 14 10 (.bin .lss) [13,12]])
 (.seq (.cond (.t 14) (.skip) (.exit 0))
 (.seq (.block 1 (.seq (.region [oT 15 11 .move [13],
 oT 5 12 .move [15]])
 (.seq (.region [oT 16 13 .move [0],
 oT 17 14 .move [5],
 oT 18 15 (.indexAddr 1 none) [16,17],
 oT 19 16 (.load false 1) [18],
 oT 20 17 .move [1],
 oT 21 18 .move [5],
 oT 22 19 (.indexAddr 1 none) [20,21],
 oT 23 20 (.load false 1) [22],
 oT 24 21 (.bin .neq) [19,23]])
 (.cond (.t 24) (.seq (.region [⟨(some 4),22,.move,[.c (.bool false)],none⟩])
 (.ret)) (.skip)))))
 (.region [⟨(some 25),23,(.bin .add),[.t 13,.c (.int .i64 (1))],none⟩,
 oT 13 24 .move [25]])))))))
 (.seq (.region [⟨(some 4),25,.move,[.c (.bool true)],none⟩])
 (.ret)))))
 [.tmp 4] 0 24
def f150.env : Env := []
def f150.tree (a : (List (ByteArray)) × (List (ByteArray))) : Prop := Br ((a.1.length : Int) != (a.2.length : Int)) ((false = (textsV a))∧True) (∃ (I5 : Int→Prop) (μ6 : Int→Nat),(∃ x4 : Int,SlS e_str a.1 (SlS e_str a.2 (((a.1.length : Int) = (a.1.length : Int))∧((0 : Int) = x4)∧I5 x4)))∧∀ y7 : Int,I5 y7→(Br (decide (y7 < (a.1.length : Int))) (Br (decide ((0 : Int)≤y7) && decide (y7 < (a.1.length : Int))) (Br (decide ((0 : Int)≤y7) && decide (y7 < (a.2.length : Int))) (Br (!((at_ a.1 y7).toList == (at_ a.2 y7).toList)) ((false = (textsV a))∧True) (Let (IntKind.i64.wrap (y7 + (1 : Int))) (fun v15 : Int => ∃ x16 : Int,SlS e_str a.1 (SlS e_str a.2 (((a.1.length : Int) = (a.1.length : Int))∧(v15 = x16)∧I5 x16∧μ6 x16 < μ6 y7))))) False) False) ((true = (textsV a))∧True)))
def f150.vc (a : (List (ByteArray)) × (List (ByteArray))) : Prop := ((¬ (a.1.length : Int) = (a.2.length : Int)→(false = textsV a))∧(¬ (¬ (a.1.length : Int) = (a.2.length : Int))→(∃ (I5 : Int→Prop) (μ6 : Int→Nat),I5 (0 : Int)∧∀ y7 : Int,I5 y7→((y7 < (a.1.length : Int)→((0 : Int)≤y7∧y7 < (a.1.length : Int)∧((0 : Int)≤y7∧y7 < (a.2.length : Int)∧((¬ ((at_ a.1 y7) = (at_ a.2 y7))→(false = textsV a))∧(¬ (¬ ((at_ a.1 y7) = (at_ a.2 y7)))→(-9223372036854775808≤(y7 + (1 : Int))∧(y7 + (1 : Int))≤9223372036854775807∧(I5 (y7 + (1 : Int))∧μ6 (y7 + (1 : Int)) < μ6 y7)))))))∧(¬ (y7 < (a.1.length : Int))→(true = textsV a))))))
set_option maxRecDepth 100000 in
set_option maxHeartbeats 2000000 in
theorem f150.of (a : (List (ByteArray)) × (List (ByteArray))) (h : f150.vc a) : f150.tree a := br h Cnd.ne (fun h1 k31 => ⟨k31,trivial⟩) (fun h2 k32 => Exists.elim k32 (fun I5 h28_ => Exists.elim h28_ (fun μ6 h28 => ⟨I5,μ6,⟨(0 : Int),SlS.mk  (SlS.mk  (⟨rfl,⟨rfl,h28.1⟩⟩))⟩,fun y7 h30 => br (h28.2 y7 h30) Cnd.dec (fun h8 k26 => chk k26.2.2 Cnd.ix ⟨k26.1,k26.2.1⟩ (fun h10 k24 => chk k24.2.2 Cnd.ix ⟨k24.1,k24.2.1⟩ (fun h11 k23 => br k23 (Cnd.not Cnd.seq) (fun h12 k21 => ⟨k21,trivial⟩) (fun h13 k22 => wrapK.i64 k22 (fun h18 h19 k20 => ⟨(y7 + (1 : Int)),SlS.mk  (SlS.mk  (⟨rfl,⟨rfl,k20⟩⟩))⟩))))) (fun h9 k27 => ⟨k27,trivial⟩)⟩)))
theorem f150.eq (a : (List (ByteArray)) × (List (ByteArray))) : (f150.af a).gives f150.env (f150.args a) (f150.blks a) (f150.res a) (f150.blks' a) = f150.tree a := by kernel_rfl
end Go.Abs

-- cmp.isNaN[string]
namespace Go.Abs
open Go
def f200.args (a : ByteArray) : List D := [.str a]
def f200.blks (a : ByteArray) : List (List D) := []
def f200.res (a : ByteArray) : List D := [.bool ((fun _ : ByteArray => false) a)]
def f200.blks' (a : ByteArray) : List (List D) := []
def f200.C : Contract := FnC f200.args f200.blks (fun _ => True) f200.res f200.blks'
end Go.Abs

/- cmp.Compare[string] -/
namespace Go.Abs
open Go
set_option linter.unusedVariables false
def f176.kills (a : ByteArray × ByteArray) : List Hint := []
def f176.cuts (a : ByteArray × ByteArray) : List (Nat × Σ β : Type,β→Tm) := []
def f176.af (a : ByteArray × ByteArray) : AF := AF.mk (.seq (.region [⟨(some 4),0,.move,[.c (.int .i64 (0))],none⟩])
 (.seq (.region [oT 7 1 .move [0],
 oT 8 2 (.call false 200) [7],
 oT 5 6 .move [8]])
 (.seq (.region [oT 9 7 .move [1],
 oT 10 8 (.call false 200) [9],
 oT 6 12 .move [10]])
 (.seq (.seq (.region [oT 11 13 .move [5]])
 (.cond (.t 11) (.seq (.seq (.region [oT 12 14 .move [6]])
 (.cond (.t 12) (.seq (.region [⟨(some 4),15,.move,[.c (.int .i64 (0))],none⟩])
 (.ret)) (.skip)))
 (.seq (.region [⟨(some 4),16,.move,[.c (.int .i64 (-1))],none⟩])
 (.ret))) (.skip)))
 (.seq (.seq (.region [oT 13 17 .move [6]])
 (.cond (.t 13) (.seq (.region [⟨(some 4),18,.move,[.c (.int .i64 (1))],none⟩])
 (.ret)) (.skip)))
 (.seq (.seq (.region [oT 14 19 .move [0],
 oT 15 20 .move [1],
 oT 16 21 (.bin .lss) [14,15]])
 (.cond (.t 16) (.seq (.region [⟨(some 4),22,.move,[.c (.int .i64 (-1))],none⟩])
 (.ret)) (.skip)))
 (.seq (.seq (.region [oT 17 23 .move [0],
 oT 18 24 .move [1],
 oT 19 25 (.bin .gtr) [17,18]])
 (.cond (.t 19) (.seq (.region [⟨(some 4),26,.move,[.c (.int .i64 (1))],none⟩])
 (.ret)) (.skip)))
 (.seq (.region [⟨(some 4),27,.move,[.c (.int .i64 (0))],none⟩])
 (.ret)))))))))
 [.tmp 4] 0 18
def f176.env : Env := [(200,f200.C)]
def f176.tree (a : ByteArray × ByteArray) : Prop := ∃ c1 : ByteArray,(a.1 = c1)∧True∧∃ c2 : ByteArray,(a.2 = c2)∧True∧Br ((fun _ : ByteArray => false) c1) (Br ((fun _ : ByteArray => false) c2) (((0 : Int) = (cmpT a))∧True) (((-1 : Int) = (cmpT a))∧True)) (Br ((fun _ : ByteArray => false) c2) (((1 : Int) = (cmpT a))∧True) (Br (Op.bytesLess a.1.toList a.2.toList) (((-1 : Int) = (cmpT a))∧True) (Br (!(Op.bytesLess a.1.toList a.2.toList || a.1.toList == a.2.toList)) (((1 : Int) = (cmpT a))∧True) (((0 : Int) = (cmpT a))∧True))))
def f176.vc (a : ByteArray × ByteArray) : Prop := ((((fun _ : ByteArray => false) (a.1)) = true→((((fun _ : ByteArray => false) (a.2)) = true→((0 : Int) = cmpT a))∧(¬ (((fun _ : ByteArray => false) (a.2)) = true)→((-1 : Int) = cmpT a))))∧(¬ (((fun _ : ByteArray => false) (a.1)) = true)→((((fun _ : ByteArray => false) (a.2)) = true→((1 : Int) = cmpT a))∧(¬ (((fun _ : ByteArray => false) (a.2)) = true)→((sLt a.1 a.2→((-1 : Int) = cmpT a))∧(¬ (sLt a.1 a.2)→((¬ sLe a.1 a.2→((1 : Int) = cmpT a))∧(¬ (¬ sLe a.1 a.2)→((0 : Int) = cmpT a)))))))))
set_option maxRecDepth 100000 in
set_option maxHeartbeats 2000000 in
theorem f176.of (a : ByteArray × ByteArray) (h : f176.vc a) : f176.tree a := ⟨a.1,⟨rfl,⟨trivial,⟨a.2,⟨rfl,⟨trivial,br h Cnd.b (fun h3 k27 => br k27 Cnd.b (fun h5 k9 => ⟨k9,trivial⟩) (fun h6 k10 => ⟨k10,trivial⟩)) (fun h4 k28 => br k28 Cnd.b (fun h11 k25 => ⟨k25,trivial⟩) (fun h12 k26 => br k26 Cnd.sl_ (fun h14 k23 => ⟨k23,trivial⟩) (fun h15 k24 => br k24 (Cnd.not Cnd.sle) (fun h17 k21 => ⟨k21,trivial⟩) (fun h18 k22 => ⟨k22,trivial⟩))))⟩⟩⟩⟩⟩⟩
theorem f176.eq (a : ByteArray × ByteArray) : (f176.af a).gives f176.env (f176.args a) (f176.blks a) (f176.res a) (f176.blks' a) = f176.tree a := by kernel_rfl
end Go.Abs

/- cmp.isNaN[string] -/
namespace Go.Abs
open Go
set_option linter.unusedVariables false
def f200.kills (a : ByteArray) : List Hint := []
def f200.cuts (a : ByteArray) : List (Nat × Σ β : Type,β→Tm) := []
def f200.af (a : ByteArray) : AF := AF.mk (.seq (.region [⟨(some 2),0,.move,[.c (.bool false)],none⟩])
 (.seq (.region [oT 3 1 .move [0],
 oT 4 2 .move [0],
 oT 5 3 (.bin .neq) [3,4],
 oT 2 4 .move [5]])
 (.ret)))
 [.tmp 2] 0 5
def f200.env : Env := []
def f200.tree (a : ByteArray) : Prop := ((!(a.toList == a.toList)) = ((fun _ : ByteArray => false) a))∧True
def f200.vc (a : ByteArray) : Prop := ((!(a.toList == a.toList)) = (fun _ : ByteArray => false) a)
set_option maxRecDepth 100000 in
set_option maxHeartbeats 2000000 in
theorem f200.of (a : ByteArray) (h : f200.vc a) : f200.tree a := ⟨h,trivial⟩
theorem f200.eq (a : ByteArray) : (f200.af a).gives f200.env (f200.args a) (f200.blks a) (f200.res a) (f200.blks' a) = f200.tree a := by kernel_rfl
end Go.Abs

/- The machine from which jobs go,and the document's answers: what the code asks is so. -/
namespace Go.Abs
open Go

theorem f200.ok (a : ByteArray) (_ : True) : f200.vc a := by
  unfold f200.vc
  simp

theorem f176.ok (a : ByteArray × ByteArray) (_ : True) : f176.vc a := by
  obtain ⟨x,y⟩ := a
  refine ⟨fun c => Bool.noConfusion c,fun _ => ⟨fun c => Bool.noConfusion c,fun _ => ⟨fun c => ?_,fun c => ⟨fun c2 => ?_,fun c2 => ?_⟩⟩⟩⟩
  · exact (if_pos (show Op.bytesLess x.toList y.toList = true from c)).symm
  · exact ((if_neg (show ¬ Op.bytesLess x.toList y.toList = true from c)).trans (if_neg (show ¬ x = y from fun e => c2 (.inr e)))).symm
  · exact ((if_neg (show ¬ Op.bytesLess x.toList y.toList = true from c)).trans (if_pos (show x = y from (Classical.not_not.1 c2).resolve_left c))).symm

theorem f150.ok (a : List ByteArray × List ByteArray) (h : texts_pre a) : f150.vc a := by
  obtain ⟨l,m⟩ := a
  have h1 : l.length ≤ 1048576 := h.1
  refine ⟨fun c => ?_,fun c => ?_⟩
  · unfold textsV
    refine (decide_eq_false fun e => c ?_).symm
    simp only at e ⊢
    rw [e]
  · have hl : l.length = m.length := by
      have := Classical.not_not.1 c
      simp only at this
      omega
    refine ⟨fun y => 0 ≤ y ∧ y ≤ (l.length : Int) ∧ ∀ k,k < y.toNat → l.getD k default = m.getD k default,fun y => l.length - y.toNat,⟨by omega,by omega,fun k hk => by simp at hk⟩,fun y hy => ?_⟩
    obtain ⟨g0,g1,g2⟩ := hy
    simp only
    refine ⟨fun hlt => ⟨g0,hlt,g0,by omega,fun c => ?_,fun c => ⟨by omega,by omega,⟨by omega,by omega,fun k hk => ?_⟩,by omega⟩⟩,fun hge => ?_⟩
    · unfold textsV
      refine (decide_eq_false fun e => c ?_).symm
      simp only at e
      rw [e]
    · by_cases he : k = y.toNat
      · subst he; exact Classical.not_not.1 c
      · exact g2 k (by omega)
    · unfold textsV
      exact (decide_eq_true (ext_getD hl fun k hk => g2 k (by omega))).symm

theorem f252.ok (a : TOffer) (h : top_pre a) : f252.vc a := by
  have h : a.2.length ≤ 1048576 := h
  refine ⟨fun c => ?_,fun c => ⟨by omega,by omega,by omega,by omega,?_⟩⟩
  · unfold topV
    rw [if_pos (by omega)]
  · unfold topV
    rw [if_neg (by omega)]

theorem f245.ok (a : TOffer × TOffer) (h : cmpOff_pre a) : f245.vc a := ⟨h.1,h.2,by unfold orI_pre; simp,rfl⟩

theorem minFrom_snoc (x : TOffer) : ∀ (l : List TOffer) (m : TOffer),minFrom m (l ++ [x]) = if cmpOff (x,minFrom m l) < 0 then x else minFrom m l
  | [],m => rfl
  | y :: l,m => by
    rw [List.cons_append,minFrom,minFrom]
    exact minFrom_snoc x l _

theorem minV_snoc (x : TOffer) {l : List TOffer} (h : l ≠ []) : minV (l ++ [x]) = if cmpOff (x,minV l) < 0 then x else minV l := by
  cases l with
  | nil => exact absurd rfl h
  | cons y l => exact minFrom_snoc x l y

theorem take_snoc {α : Type} [Inhabited α] {l : List α} {i : Nat} (h : i < l.length) : l.take (i + 1) = l.take i ++ [l.getD i default] := by
  rw [getD_of h,List.take_succ_eq_append_getElem h]

theorem f244.ok (a : List TOffer) (h : minV_pre a) : f244.vc a := by
  obtain ⟨h1,h2,h3⟩ := h
  have h2 : a.length ≤ 1048576 := h2
  refine ⟨fun c => by omega,fun _ => ⟨by omega,?_⟩⟩
  refine ⟨fun y => 1 ≤ y.1 ∧ y.1 ≤ (a.length : Int) ∧ y.2 = minV (a.take y.1.toNat) ∧ y.2 ∈ a,fun y => a.length - y.1.toNat,⟨by simp only; omega,by simp only; omega,?_,?_⟩,fun y hy => ?_⟩
  · cases a with
    | nil => simp at h1
    | cons x l => rfl
  · exact getD_mem (l := a) (i := 0) h1
  · obtain ⟨i,o⟩ := y
    obtain ⟨g1,g2,g3,g4⟩ := hy
    simp only at g1 g2 g3 g4 ⊢
    have hne : a.take i.toNat ≠ [] := fun e => by
      have := congrArg List.length e
      rw [List.length_take,List.length_nil] at this
      omega
    have step : i < (a.length : Int) → minV (a.take (i + 1).toNat) = if cmpOff (at_ a i,o) < 0 then at_ a i else o := fun hlt => by
      rw [show (i + 1).toNat = i.toNat + 1 from by omega,take_snoc (by omega),minV_snoc _ hne,← g3]
      rfl
    refine ⟨fun hlt => ⟨by omega,hlt,⟨h3 _ (getD_mem (l := a) (i := i.toNat) (by omega)),h3 _ g4⟩,fun c => ⟨by omega,by omega,by omega,by omega,⟨by omega,by omega,?_,?_⟩,by omega⟩,fun c => ⟨by omega,by omega,⟨by omega,by omega,?_,g4⟩,by omega⟩⟩,fun hge => ?_⟩
    · rw [step hlt,if_pos c]
    · exact getD_mem (l := a) (by omega)
    · rw [step hlt,if_neg c]
    · rw [g3,List.take_of_length_le (by omega)]

theorem gone_len (a : TMach × List TJob × TTask) : (goneV a).1.length ≤ a.2.1.length := by
  have h2 := weak_len a
  unfold goneV
  split
  · simp
  · split
    · simp
    · split
      · simp only [List.length_take]
        omega
      · simp

theorem offers_app (l m : List TMach) (b : List TJob × TTask) : offersV (l ++ m,b) = offersV (l,b) ++ offersV (m,b) := by
  unfold offersV
  rw [List.filter_append,List.map_append]

theorem offers_one (m : TMach) (b : List TJob × TTask) : offersV ([m],b) = if (goneV (m,b)).2 = true then [(m.1.1,(goneV (m,b)).1)] else [] := by
  unfold offersV
  by_cases h : (goneV (m,b)).2 = true
  · rw [if_pos h,List.filter_cons_of_pos (p := fun x : TMach => (goneV (x,([m],b).2)).2) h]
    rfl
  · rw [if_neg h,List.filter_cons_of_neg (p := fun x : TMach => (goneV (x,([m],b).2)).2) h]
    rfl

theorem choose_eq {a : List TMach × List TJob × TTask} (h : offersV a ≠ []) : chooseV a = ((minV (offersV a)).1,namesV (minV (offersV a)).2,true) := by
  unfold chooseV
  cases hh : offersV a with
  | nil => exact absurd hh h
  | cons x l => rfl

theorem offers_small {a : List TMach × List TJob × TTask} (h : L20 a.2.1) : ∀ o ∈ offersV a,L20 o.2 := by
  intro o ho
  obtain ⟨m,_,rfl⟩ := List.mem_map.1 ho
  exact Nat.le_trans (gone_len _) h

theorem f227.ok (a : List TMach × List TJob × TTask) (h : choose_pre a) : f227.vc a := by
  obtain ⟨l,jobs,t⟩ := a
  obtain ⟨h1,h2⟩ := h
  have h1 : l.length ≤ 1048576 := h1
  refine ⟨fun y => 0 ≤ y.2 ∧ y.2 ≤ (l.length : Int) ∧ y.1 = offersV (l.take y.2.toNat,jobs,t) ∧ y.1.length ≤ y.2.toNat,fun y => l.length - y.2.toNat,⟨by simp only; omega,by simp only; omega,rfl,Nat.le_refl _⟩,fun y hy => ?_⟩
  obtain ⟨out,i⟩ := y
  obtain ⟨g0,g1,g2,g3⟩ := hy
  simp only at g0 g1 g2 g3 ⊢
  have step : i < (l.length : Int) → offersV (l.take (i + 1).toNat,jobs,t) = out ++ if (goneV (at_ l i,jobs,t)).2 = true then [((at_ l i).1.1,(goneV (at_ l i,jobs,t)).1)] else [] := fun hlt => by
    rw [show (i + 1).toNat = i.toNat + 1 from by omega,take_snoc (by omega),offers_app,offers_one,← g2]
    rfl
  refine ⟨fun hlt => ⟨g0,hlt,h2 _ (getD_mem (l := l) (i := i.toNat) (by omega)),fun c => ⟨by omega,by omega,by omega,⟨by omega,by omega,?_,?_⟩,by omega⟩,fun c => ⟨by omega,by omega,⟨by omega,by omega,?_,by omega⟩,by omega⟩⟩,fun hge => ?_⟩
  · rw [step hlt,if_pos c]
  · rw [List.length_append,List.length_singleton]
    omega
  · rw [step hlt,if_neg c,List.append_nil]
  · rw [List.take_of_length_le (by omega)] at g2
    subst g2
    refine ⟨fun c => ?_,fun c => ?_⟩
    · have : offersV (l,jobs,t) = [] := List.eq_nil_of_length_eq_zero (by omega)
      unfold chooseV
      rw [this]
    · have hne : offersV (l,jobs,t) ≠ [] := fun e => by rw [e] at c; exact c rfl
      have hj : L20 jobs := by
        cases l with
        | nil => exact absurd rfl hne
        | cons m l => exact (h2 m (by simp)).1
      have hpos : 0 < (offersV (l,jobs,t)).length := List.length_pos_iff.2 hne
      have small := offers_small (a := (l,jobs,t)) hj
      refine ⟨⟨hpos,by unfold L20; omega,small⟩,small _ ?_,(choose_eq hne).symm⟩
      exact minV_mem hne
where
  minV_mem {l : List TOffer} (h : l ≠ []) : minV l ∈ l := by
    cases l with
    | nil => exact absurd rfl h
    | cons x l => exact minFrom_mem l x
  minFrom_mem : ∀ (l : List TOffer) (m : TOffer),minFrom m l ∈ m :: l
    | [],m => by simp [minFrom]
    | x :: l,m => by
      rw [minFrom]
      have := minFrom_mem l (if cmpOff (x,m) < 0 then x else m)
      rcases List.mem_cons.1 this with h | h
      · rw [h]
        split <;> simp
      · simp [h]

structure ChI (l : List TMach) (b : List TJob × TTask) (best many top i : Int) : Prop where
  i0 : 0 ≤ i
  i1 : i ≤ (l.length : Int)
  none : best < 0 ↔ offersV (l.take i.toNat,b) = []
  some : 0 ≤ best → best < i ∧ (goneV (at_ l best,b)).2 = true ∧ minV (offersV (l.take i.toNat,b)) = ((at_ l best).1.1,(goneV (at_ l best,b)).1) ∧ many = ((goneV (at_ l best,b)).1.length : Int) ∧ top = topV ((at_ l best).1.1,(goneV (at_ l best,b)).1)

theorem ChI.skip {l : List TMach} {b : List TJob × TTask} {best many top i : Int} (h : ChI l b best many top i) (hlt : i < (l.length : Int)) (c : ¬ (goneV (at_ l i,b)).2 = true) : ChI l b best many top (i + 1) := by
  have h0 := h.i0
  have e : offersV (l.take (i + 1).toNat,b) = offersV (l.take i.toNat,b) := by
    rw [show (i + 1).toNat = i.toNat + 1 from by omega,take_snoc (by omega),offers_app,offers_one,if_neg (show ¬ (goneV (l.getD i.toNat default,b)).2 = true from c),List.append_nil]
  refine ⟨by omega,by omega,by rw [e]; exact h.none,fun hb => ?_⟩
  rw [e]
  have := h.some hb
  exact ⟨by omega,this.2⟩

theorem ChI.take {l : List TMach} {b : List TJob × TTask} {best many top i : Int} (h : ChI l b best many top i) (hlt : i < (l.length : Int)) (c : (goneV (at_ l i,b)).2 = true) (hb : best < 0 ∨ cmpOff (((at_ l i).1.1,(goneV (at_ l i,b)).1),((at_ l best).1.1,(goneV (at_ l best,b)).1)) < 0) {many' top' : Int}
    (e1 : many' = ((goneV (at_ l i,b)).1.length : Int)) (e2 : top' = topV ((at_ l i).1.1,(goneV (at_ l i,b)).1)) : ChI l b i many' top' (i + 1) := by
  have h0 := h.i0
  have e : offersV (l.take (i + 1).toNat,b) = offersV (l.take i.toNat,b) ++ [((at_ l i).1.1,(goneV (at_ l i,b)).1)] := by
    rw [show (i + 1).toNat = i.toNat + 1 from by omega,take_snoc (by omega),offers_app,offers_one,if_pos (show (goneV (l.getD i.toNat default,b)).2 = true from c)]
    rfl
  refine ⟨by omega,by omega,⟨fun hh => by omega,fun hh => by rw [e] at hh; simp at hh⟩,fun _ => ⟨by omega,c,?_,e1,e2⟩⟩
  rw [e]
  by_cases hn : offersV (l.take i.toNat,b) = []
  · rw [hn]
    rfl
  · have hb0 : 0 ≤ best := by
      by_cases hh : best < 0
      · exact absurd (h.none.1 hh) hn
      · omega
    rw [minV_snoc _ hn,(h.some hb0).2.2.1,if_pos (hb.resolve_left (by omega))]

theorem ChI.keep {l : List TMach} {b : List TJob × TTask} {best many top i : Int} (h : ChI l b best many top i) (hlt : i < (l.length : Int)) (c : (goneV (at_ l i,b)).2 = true) (hb0 : ¬ best < 0) (hb : ¬ cmpOff (((at_ l i).1.1,(goneV (at_ l i,b)).1),((at_ l best).1.1,(goneV (at_ l best,b)).1)) < 0) : ChI l b best many top (i + 1) := by
  have h0 := h.i0
  have e : offersV (l.take (i + 1).toNat,b) = offersV (l.take i.toNat,b) ++ [((at_ l i).1.1,(goneV (at_ l i,b)).1)] := by
    rw [show (i + 1).toNat = i.toNat + 1 from by omega,take_snoc (by omega),offers_app,offers_one,if_pos (show (goneV (l.getD i.toNat default,b)).2 = true from c)]
    rfl
  have hn : offersV (l.take i.toNat,b) ≠ [] := fun hh => hb0 (h.none.2 hh)
  obtain ⟨q1,q2,q3,q4,q5⟩ := h.some (by omega)
  refine ⟨by omega,by omega,⟨fun hh => absurd hh hb0,fun hh => by rw [e] at hh; simp at hh⟩,fun _ => ⟨by omega,q2,?_,q4,q5⟩⟩
  rw [e,minV_snoc _ hn,q3,if_neg hb]

theorem cmpOff_iff (x y : TOffer) : cmpOff (x,y) < 0 ↔ (x.2.length : Int) < y.2.length ∨ ((x.2.length : Int) = y.2.length ∧ (topV x < topV y ∨ (topV x = topV y ∧ sLt x.1 y.1))) := by
  have ht : cmpT (x.1,y.1) < 0 ↔ sLt x.1 y.1 := by
    unfold cmpT
    by_cases h : sLt x.1 y.1
    · have h' : Op.bytesLess x.1.toList y.1.toList = true := h
      rw [if_pos h']
      exact ⟨fun _ => h,fun _ => by decide⟩
    · have h' : ¬ Op.bytesLess x.1.toList y.1.toList = true := h
      rw [if_neg h']
      refine ⟨fun hh => ?_,fun hh => absurd hh h⟩
      split at hh <;> omega
  unfold cmpOff
  simp only [orI]
  generalize cmpT (x.1,y.1) = ct at ht
  unfold cmpI
  simp only
  by_cases h1 : (x.2.length : Int) < y.2.length
  · rw [if_pos h1,if_neg (by decide)]
    exact ⟨fun _ => .inl h1,fun _ => by decide⟩
  · rw [if_neg h1]
    by_cases h2 : (y.2.length : Int) < x.2.length
    · rw [if_pos h2,if_neg (by decide)]
      exact ⟨fun hh => by omega,fun hh => by omega⟩
    · rw [if_neg h2,if_pos rfl]
      have h3 : (x.2.length : Int) = y.2.length := by omega
      by_cases h4 : topV x < topV y
      · rw [if_pos h4,if_neg (by decide)]
        exact ⟨fun _ => .inr ⟨h3,.inl h4⟩,fun _ => by decide⟩
      · rw [if_neg h4]
        by_cases h5 : topV y < topV x
        · rw [if_pos h5,if_neg (by decide)]
          exact ⟨fun hh => by omega,fun hh => by omega⟩
        · rw [if_neg h5,if_pos rfl]
          have h6 : topV x = topV y := by omega
          have e : (if ct = 0 then (0 : Int) else ct) < 0 ↔ ct < 0 := by split <;> omega
          rw [e,ht]
          exact ⟨fun hh => .inr ⟨h3,.inr ⟨h6,hh⟩⟩,fun hh => by
            rcases hh with hh | ⟨_,hh | ⟨_,hh⟩⟩
            · omega
            · omega
            · exact hh⟩

end Go.Abs
