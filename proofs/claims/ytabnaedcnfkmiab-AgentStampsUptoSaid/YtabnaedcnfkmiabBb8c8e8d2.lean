/- Functions, and what the code asks of them: PAgentLaw. -/
import Derived.KernelRfl
import Derived.Test.YtabnaedcnfkmiabB9254fdba
import Derived.Test.YtabnaedcnfkmiabB02307bec
import Derived.Test.YtabnaedcnfkmiabB3df567a3
import Derived.Test.YtabnaedcnfkmiabBacf54228
import Derived.Test.YtabnaedcnfkmiabB431a6edd
import Derived.Test.YtabnaedcnfkmiabB131cd594
import Derived.Test.YtabnaedcnfkmiabB6e532dad
import Derived.Test.YtabnaedcnfkmiabBf119422d
import Derived.Test.YtabnaedcnfkmiabB76a1a875
set_option linter.unusedVariables false
set_option linter.unusedSimpArgs false
-- interregnum/interregnumlaw24.AgentStamps
namespace Go.Abs
open Go
def f85.wf (a : T_ar3_i64 × T_ar3_i64 × T_ar3_i64) : Prop := k_ar3_i64.ok a.1∧k_ar3_i64.ok a.2.1∧k_ar3_i64.ok a.2.2
def f85.size (a : T_ar3_i64 × T_ar3_i64 × T_ar3_i64) : Nat := k_ar3_i64.size a.1 + (k_ar3_i64.size a.2.1 + (k_ar3_i64.size a.2.2))
def f85.lpre (a : T_ar3_i64 × T_ar3_i64 × T_ar3_i64) : Prop := f85.wf a∧f85.size a≤1048576
def f85.args (a : T_ar3_i64 × T_ar3_i64 × T_ar3_i64) : List D := [.agg [.int .i64 a.1.1,.int .i64 a.1.2.1,.int .i64 a.1.2.2],.agg [.int .i64 a.2.1.1,.int .i64 a.2.1.2.1,.int .i64 a.2.1.2.2],.agg [.int .i64 a.2.2.1,.int .i64 a.2.2.2.1,.int .i64 a.2.2.2.2]]
def f85.blks (a : T_ar3_i64 × T_ar3_i64 × T_ar3_i64) : List (List D) := []
def f85.res (a : T_ar3_i64 × T_ar3_i64 × T_ar3_i64) : List D := [.bool (lawTrue a)]
def f85.blks' (a : T_ar3_i64 × T_ar3_i64 × T_ar3_i64) : List (List D) := []
def f85.C : Contract := FnC f85.args f85.blks (fun a => f85.lpre a) f85.res f85.blks'
end Go.Abs

/- interregnum/interregnumlaw24.AgentStamps -/
namespace Go.Abs
open Go
set_option linter.unusedVariables false
def f85.kills (a : T_ar3_i64 × T_ar3_i64 × T_ar3_i64) : List Hint := []
def f85.cuts (a : T_ar3_i64 × T_ar3_i64 × T_ar3_i64) : List (Nat × Σ β : Type,β→Tm) := []
def f85.af (a : T_ar3_i64 × T_ar3_i64 × T_ar3_i64) : AF := AF.mk (.seq (.region [⟨(some 3),0,.box,[.t 0],none⟩,
 ⟨(some 4),1,.box,[.t 1],none⟩,
 ⟨(some 5),2,.box,[.t 2],none⟩,
 ⟨(some 6),3,.move,[.c (.bool false)],none⟩])
 (.seq (.seq (.region [⟨(some 10),4,(.call false 98),[],none⟩,
 ⟨(some 11),8,(.un .not),[.t 10],none⟩,
 ⟨(some 12),9,.move,[.t 11],none⟩,
 ⟨(some 13),10,(.load true 3),[.t 3],(some (12,false))⟩,
 ⟨(some 14),11,(.load true 3),[.t 3],(some (12,false))⟩,
 ⟨(some 15),12,(.call false 99),[.t 13,.t 14],(some (12,false))⟩,
 ⟨(some 16),16,(.bin .neq),[.t 15,.c (.int .i64 (0))],(some (12,false))⟩,
 ⟨(some 17),17,.pick,[.t 12,.c (.bool true),.t 16],none⟩])
 (.cond (.t 17) (.seq (.region [⟨(some 6),18,.move,[.c (.bool false)],none⟩])
 (.ret)) (.skip)))
 (.seq (.region [⟨(some 18),19,(.load true 3),[.t 3],none⟩,
 ⟨(some 19),20,(.load true 3),[.t 4],none⟩,
 ⟨(some 20),21,(.call false 99),[.t 18,.t 19],none⟩,
 ⟨(some 21),25,(.load true 3),[.t 4],none⟩,
 ⟨(some 22),26,(.load true 3),[.t 5],none⟩,
 ⟨(some 23),27,(.call false 99),[.t 21,.t 22],none⟩,
 ⟨(some 24),31,(.load true 3),[.t 3],none⟩,
 ⟨(some 25),32,(.load true 3),[.t 5],none⟩,
 ⟨(some 26),33,(.call false 99),[.t 24,.t 25],none⟩,
 ⟨(some 7),37,.move,[.t 20],none⟩,
 ⟨(some 8),38,.move,[.t 23],none⟩,
 ⟨(some 9),39,.move,[.t 26],none⟩])
 (.seq (.seq (.region [⟨(some 27),40,(.load true 3),[.t 4],none⟩,
 ⟨(some 28),41,(.load true 3),[.t 3],none⟩,
 ⟨(some 29),42,(.call false 99),[.t 27,.t 28],none⟩,
 ⟨(some 30),46,.move,[.t 7],none⟩,
 ⟨(some 31),47,(.un .neg),[.t 30],none⟩,
 ⟨(some 32),48,(.bin .neq),[.t 29,.t 31],none⟩,
 ⟨(some 33),49,.move,[.t 32],none⟩,
 ⟨(some 34),50,.move,[.t 7],(some (33,false))⟩,
 ⟨(some 35),51,(.bin .eql),[.t 34,.c (.int .i64 (0))],(some (33,false))⟩,
 ⟨(some 36),52,(.load true 3),[.t 3],(some (33,false))⟩,
 ⟨(some 37),53,(.load true 3),[.t 4],(some (33,false))⟩,
 ⟨(some 38),54,(.eqAgg false [0,0,0]),[.t 36,.t 37],(some (33,false))⟩,
 ⟨(some 39),55,(.binB true),[.t 35,.t 38],(some (33,false))⟩,
 ⟨(some 40),56,.pick,[.t 33,.c (.bool true),.t 39],none⟩])
 (.cond (.t 40) (.seq (.region [⟨(some 6),57,.move,[.c (.bool false)],none⟩])
 (.ret)) (.skip)))
 (.seq (.region [⟨(some 41),58,.move,[.t 7],none⟩,
 ⟨(some 42),59,(.bin .gtr),[.t 41,.c (.int .i64 (0))],none⟩,
 ⟨(some 43),60,.move,[.t 42],none⟩,
 ⟨(some 44),61,.move,[.t 8],(some (43,true))⟩,
 ⟨(some 45),62,(.bin .gtr),[.t 44,.c (.int .i64 (0))],(some (43,true))⟩,
 ⟨(some 46),63,.pick,[.t 43,.t 45,.c (.bool false)],none⟩,
 ⟨(some 47),64,.move,[.t 46],none⟩,
 ⟨(some 48),65,.move,[.t 9],(some (47,true))⟩,
 ⟨(some 49),66,(.bin .leq),[.t 48,.c (.int .i64 (0))],(some (47,true))⟩,
 ⟨(some 50),67,.pick,[.t 47,.t 49,.c (.bool false)],none⟩,
 ⟨(some 51),68,(.un .not),[.t 50],none⟩,
 ⟨(some 52),69,.move,[.t 51],none⟩,
 ⟨(some 53),70,.move,[.t 7],(some (52,true))⟩,
 ⟨(some 54),71,(.bin .lss),[.t 53,.c (.int .i64 (0))],(some (52,true))⟩,
 ⟨(some 55),72,.move,[.t 54],(some (52,true))⟩,
 ⟨(some 56),73,.move,[.t 8],(some (55,true))⟩,
 ⟨(some 57),74,(.bin .lss),[.t 56,.c (.int .i64 (0))],(some (55,true))⟩,
 ⟨(some 58),75,.pick,[.t 55,.t 57,.c (.bool false)],(some (52,true))⟩,
 ⟨(some 59),76,.move,[.t 58],(some (52,true))⟩,
 ⟨(some 60),77,.move,[.t 9],(some (59,true))⟩,
 ⟨(some 61),78,(.bin .geq),[.t 60,.c (.int .i64 (0))],(some (59,true))⟩,
 ⟨(some 62),79,.pick,[.t 59,.t 61,.c (.bool false)],(some (52,true))⟩,
 ⟨(some 63),80,(.un .not),[.t 62],(some (52,true))⟩,
 ⟨(some 64),81,.pick,[.t 52,.t 63,.c (.bool false)],none⟩,
 ⟨(some 6),82,.move,[.t 64],none⟩])
 (.ret))))))
 [.tmp 6] 0 62
def f85.env : Env := [(98,f98.C),(99,f99.C)]
def f85.tree (a : T_ar3_i64 × T_ar3_i64 × T_ar3_i64) : Prop := ∃ c1 : Unit,True∧Br (!(lawTrue c1)) ((false = (lawTrue a))∧True) (∃ c5 : T_ar3_i64 × T_ar3_i64,(a.1.1 = c5.1.1)∧(a.1.2.1 = c5.1.2.1)∧(a.1.2.2 = c5.1.2.2)∧(a.1.1 = c5.2.1)∧(a.1.2.1 = c5.2.2.1)∧(a.1.2.2 = c5.2.2.2)∧True∧Br ((cmpS c5) != (0 : Int)) ((false = (lawTrue a))∧True) (∃ c9 : T_ar3_i64 × T_ar3_i64,(a.1.1 = c9.1.1)∧(a.1.2.1 = c9.1.2.1)∧(a.1.2.2 = c9.1.2.2)∧(a.2.1.1 = c9.2.1)∧(a.2.1.2.1 = c9.2.2.1)∧(a.2.1.2.2 = c9.2.2.2)∧True∧∃ c10 : T_ar3_i64 × T_ar3_i64,(a.2.1.1 = c10.1.1)∧(a.2.1.2.1 = c10.1.2.1)∧(a.2.1.2.2 = c10.1.2.2)∧(a.2.2.1 = c10.2.1)∧(a.2.2.2.1 = c10.2.2.1)∧(a.2.2.2.2 = c10.2.2.2)∧True∧∃ c11 : T_ar3_i64 × T_ar3_i64,(a.1.1 = c11.1.1)∧(a.1.2.1 = c11.1.2.1)∧(a.1.2.2 = c11.1.2.2)∧(a.2.2.1 = c11.2.1)∧(a.2.2.2.1 = c11.2.2.1)∧(a.2.2.2.2 = c11.2.2.2)∧True∧∃ c12 : T_ar3_i64 × T_ar3_i64,(a.2.1.1 = c12.1.1)∧(a.2.1.2.1 = c12.1.2.1)∧(a.2.1.2.2 = c12.1.2.2)∧(a.1.1 = c12.2.1)∧(a.1.2.1 = c12.2.2.1)∧(a.1.2.2 = c12.2.2.2)∧True∧Let (IntKind.i64.wrap (0 - (cmpS c9))) (fun v13 : Int => Br ((cmpS c12) != v13) ((false = (lawTrue a))∧True) (Br (!(((cmpS c9) == (0 : Int)) == ((a.1.1 == a.2.1.1) && ((a.1.2.1 == a.2.1.2.1) && (a.1.2.2 == a.2.1.2.2))))) ((false = (lawTrue a))∧True) (Br (decide ((0 : Int) < (cmpS c9))) (Br (decide ((0 : Int) < (cmpS c10))) (Br (!(decide ((cmpS c11)≤(0 : Int)))) (Br (decide ((cmpS c9) < (0 : Int))) (Br (decide ((cmpS c10) < (0 : Int))) (((!(decide ((0 : Int)≤(cmpS c11)))) = (lawTrue a))∧True) ((true = (lawTrue a))∧True)) ((true = (lawTrue a))∧True)) ((false = (lawTrue a))∧True)) (Br (decide ((cmpS c9) < (0 : Int))) (Br (decide ((cmpS c10) < (0 : Int))) (((!(decide ((0 : Int)≤(cmpS c11)))) = (lawTrue a))∧True) ((true = (lawTrue a))∧True)) ((true = (lawTrue a))∧True))) (Br (decide ((cmpS c9) < (0 : Int))) (Br (decide ((cmpS c10) < (0 : Int))) (((!(decide ((0 : Int)≤(cmpS c11)))) = (lawTrue a))∧True) ((true = (lawTrue a))∧True)) ((true = (lawTrue a))∧True)))))))
def f85.vc (a : T_ar3_i64 × T_ar3_i64 × T_ar3_i64) : Prop := ((¬ ((lawTrue ()) = true)→(false = lawTrue a))∧(¬ (¬ ((lawTrue ()) = true))→((¬ (cmpS (a.1,a.1)) = (0 : Int)→(false = lawTrue a))∧(¬ (¬ (cmpS (a.1,a.1)) = (0 : Int))→(-9223372036854775808≤(0 - (cmpS (a.1,a.2.1)))∧(0 - (cmpS (a.1,a.2.1)))≤9223372036854775807∧((¬ (cmpS (a.2.1,a.1)) = (0 - (cmpS (a.1,a.2.1)))→(false = lawTrue a))∧(¬ (¬ (cmpS (a.2.1,a.1)) = (0 - (cmpS (a.1,a.2.1))))→(((!(((cmpS (a.1,a.2.1)) == (0 : Int)) == ((a.1.1 == a.2.1.1) && ((a.1.2.1 == a.2.1.2.1) && (a.1.2.2 == a.2.1.2.2))))) = true→(false = lawTrue a))∧(¬ ((!(((cmpS (a.1,a.2.1)) == (0 : Int)) == ((a.1.1 == a.2.1.1) && ((a.1.2.1 == a.2.1.2.1) && (a.1.2.2 == a.2.1.2.2))))) = true)→(((0 : Int) < (cmpS (a.1,a.2.1))→(((0 : Int) < (cmpS (a.2.1,a.2.2))→((¬ ((cmpS (a.1,a.2.2))≤(0 : Int))→(((cmpS (a.1,a.2.1)) < (0 : Int)→(((cmpS (a.2.1,a.2.2)) < (0 : Int)→((!(decide ((0 : Int)≤(cmpS (a.1,a.2.2))))) = lawTrue a))∧(¬ ((cmpS (a.2.1,a.2.2)) < (0 : Int))→(true = lawTrue a))))∧(¬ ((cmpS (a.1,a.2.1)) < (0 : Int))→(true = lawTrue a))))∧(¬ (¬ ((cmpS (a.1,a.2.2))≤(0 : Int)))→(false = lawTrue a))))∧(¬ ((0 : Int) < (cmpS (a.2.1,a.2.2)))→(((cmpS (a.1,a.2.1)) < (0 : Int)→(((cmpS (a.2.1,a.2.2)) < (0 : Int)→((!(decide ((0 : Int)≤(cmpS (a.1,a.2.2))))) = lawTrue a))∧(¬ ((cmpS (a.2.1,a.2.2)) < (0 : Int))→(true = lawTrue a))))∧(¬ ((cmpS (a.1,a.2.1)) < (0 : Int))→(true = lawTrue a))))))∧(¬ ((0 : Int) < (cmpS (a.1,a.2.1)))→(((cmpS (a.1,a.2.1)) < (0 : Int)→(((cmpS (a.2.1,a.2.2)) < (0 : Int)→((!(decide ((0 : Int)≤(cmpS (a.1,a.2.2))))) = lawTrue a))∧(¬ ((cmpS (a.2.1,a.2.2)) < (0 : Int))→(true = lawTrue a))))∧(¬ ((cmpS (a.1,a.2.1)) < (0 : Int))→(true = lawTrue a))))))))))))))
set_option maxRecDepth 100000 in
set_option maxHeartbeats 2000000 in
theorem f85.of (a : T_ar3_i64 × T_ar3_i64 × T_ar3_i64) (h : f85.vc a) : f85.tree a := ⟨(),⟨trivial,br h (Cnd.not Cnd.b) (fun h2 k80 => ⟨k80,trivial⟩) (fun h3 k81 => ⟨(a.1,a.1),⟨rfl,⟨rfl,⟨rfl,⟨rfl,⟨rfl,⟨rfl,⟨trivial,br k81 Cnd.ne (fun h6 k77 => ⟨k77,trivial⟩) (fun h7 k78 => ⟨(a.1,a.2.1),⟨rfl,⟨rfl,⟨rfl,⟨rfl,⟨rfl,⟨rfl,⟨trivial,⟨(a.2.1,a.2.2),⟨rfl,⟨rfl,⟨rfl,⟨rfl,⟨rfl,⟨rfl,⟨trivial,⟨(a.1,a.2.2),⟨rfl,⟨rfl,⟨rfl,⟨rfl,⟨rfl,⟨rfl,⟨trivial,⟨(a.2.1,a.1),⟨rfl,⟨rfl,⟨rfl,⟨rfl,⟨rfl,⟨rfl,⟨trivial,wrapK.i64 k78 (fun h70 h71 k72 => br k72 Cnd.ne (fun h14 k68 => ⟨k68,trivial⟩) (fun h15 k69 => br k69 Cnd.b (fun h17 k66 => ⟨k66,trivial⟩) (fun h18 k67 => br k67 Cnd.dec (fun h20 k64 => br k64 Cnd.dec (fun h22 k51 => br k51 (Cnd.not Cnd.dec) (fun h24 k38 => br k38 Cnd.dec (fun h26 k35 => br k35 Cnd.dec (fun h28 k32 => ⟨k32,trivial⟩) (fun h29 k33 => ⟨k33,trivial⟩)) (fun h27 k36 => ⟨k36,trivial⟩)) (fun h25 k39 => ⟨k39,trivial⟩)) (fun h23 k52 => br k52 Cnd.dec (fun h40 k49 => br k49 Cnd.dec (fun h42 k46 => ⟨k46,trivial⟩) (fun h43 k47 => ⟨k47,trivial⟩)) (fun h41 k50 => ⟨k50,trivial⟩))) (fun h21 k65 => br k65 Cnd.dec (fun h53 k62 => br k62 Cnd.dec (fun h55 k59 => ⟨k59,trivial⟩) (fun h56 k60 => ⟨k60,trivial⟩)) (fun h54 k63 => ⟨k63,trivial⟩)))))⟩⟩⟩⟩⟩⟩⟩⟩⟩⟩⟩⟩⟩⟩⟩⟩⟩⟩⟩⟩⟩⟩⟩⟩⟩⟩⟩⟩⟩⟩⟩⟩)⟩⟩⟩⟩⟩⟩⟩⟩)⟩⟩
theorem f85.eq (a : T_ar3_i64 × T_ar3_i64 × T_ar3_i64) : (f85.af a).gives f85.env (f85.args a) (f85.blks a) (f85.res a) (f85.blks' a) = f85.tree a := by kernel_rfl
end Go.Abs

/- The laws of layer 24. -/
namespace Go.Abs
open Go

def Lt3 (a b : TRes) : Prop := a.1 < b.1 ∨ a.1 = b.1 ∧ (a.2.1 < b.2.1 ∨ a.2.1 = b.2.1 ∧ a.2.2 < b.2.2)

theorem cmp3 (a b : TRes) : (cmpS (a,b) = -1 ∧ Lt3 a b) ∨ (cmpS (a,b) = 0 ∧ a = b) ∨ (cmpS (a,b) = 1 ∧ Lt3 b a) := by
  obtain ⟨a1,a2,a3⟩ := a
  obtain ⟨b1,b2,b3⟩ := b
  have c : ∀ x y : Int,(cmpI (x,y) = -1 ∧ x < y) ∨ (cmpI (x,y) = 0 ∧ x = y) ∨ (cmpI (x,y) = 1 ∧ y < x) := fun x y => by
    unfold cmpI
    simp only
    by_cases h : x < y
    · rw [if_pos h]; exact .inl ⟨rfl,h⟩
    · rw [if_neg h]
      by_cases h2 : y < x
      · rw [if_pos h2]; exact .inr (.inr ⟨rfl,h2⟩)
      · rw [if_neg h2]; exact .inr (.inl ⟨rfl,by omega⟩)
  unfold cmpS Lt3
  simp only [Prod.mk.injEq]
  have n1 : ¬ ((-1 : Int) = 0) := by decide
  have n2 : ¬ ((1 : Int) = 0) := by decide
  rcases c a1 b1 with ⟨e1,h1⟩ | ⟨e1,h1⟩ | ⟨e1,h1⟩
  · rw [e1,if_pos n1]; exact .inl ⟨rfl,.inl h1⟩
  · rw [e1,if_neg (not_not_intro rfl)]
    rcases c a2 b2 with ⟨e2,h2⟩ | ⟨e2,h2⟩ | ⟨e2,h2⟩
    · rw [e2,if_pos n1]; exact .inl ⟨rfl,.inr ⟨h1,.inl h2⟩⟩
    · rw [e2,if_neg (not_not_intro rfl)]
      rcases c a3 b3 with ⟨e3,h3⟩ | ⟨e3,h3⟩ | ⟨e3,h3⟩
      · exact .inl ⟨e3,.inr ⟨h1,.inr ⟨h2,h3⟩⟩⟩
      · exact .inr (.inl ⟨e3,h1,h2,h3⟩)
      · exact .inr (.inr ⟨e3,.inr ⟨h1.symm,.inr ⟨h2.symm,h3⟩⟩⟩)
    · rw [e2,if_pos n2]; exact .inr (.inr ⟨rfl,.inr ⟨h1.symm,.inl h2⟩⟩)
  · rw [e1,if_pos n2]; exact .inr (.inr ⟨rfl,.inl h1⟩)

theorem lt3_irr {a : TRes} (h : Lt3 a a) : False := by unfold Lt3 at h; omega
theorem lt3_anti {a b : TRes} (h : Lt3 a b) (k : Lt3 b a) : False := by unfold Lt3 at h k; omega
theorem lt3_trans {a b c : TRes} (h : Lt3 a b) (k : Lt3 b c) : Lt3 a c := by unfold Lt3 at *; omega

theorem cmp_self (a : TRes) : cmpS (a,a) = 0 := by
  rcases cmp3 a a with ⟨_,h⟩ | ⟨h,_⟩ | ⟨_,h⟩
  · exact (lt3_irr h).elim
  · exact h
  · exact (lt3_irr h).elim
theorem cmp_neg {a b : TRes} : cmpS (a,b) < 0 ↔ Lt3 a b := by
  rcases cmp3 a b with ⟨e,h⟩ | ⟨e,h⟩ | ⟨e,h⟩ <;> rw [e]
  · exact ⟨fun _ => h,fun _ => by decide⟩
  · exact ⟨fun hh => absurd hh (by decide),fun hh => (lt3_irr (h ▸ hh)).elim⟩
  · exact ⟨fun hh => absurd hh (by decide),fun hh => (lt3_anti h hh).elim⟩
theorem cmp_pos {a b : TRes} : 0 < cmpS (a,b) ↔ Lt3 b a := by
  rcases cmp3 a b with ⟨e,h⟩ | ⟨e,h⟩ | ⟨e,h⟩ <;> rw [e]
  · exact ⟨fun hh => absurd hh (by decide),fun hh => (lt3_anti h hh).elim⟩
  · exact ⟨fun hh => absurd hh (by decide),fun hh => (lt3_irr (h ▸ hh)).elim⟩
  · exact ⟨fun _ => h,fun _ => by decide⟩
theorem cmp_zero {a b : TRes} : cmpS (a,b) = 0 ↔ a = b := by
  rcases cmp3 a b with ⟨e,h⟩ | ⟨e,h⟩ | ⟨e,h⟩ <;> rw [e]
  · exact ⟨fun hh => absurd hh (by decide),fun hh => (lt3_irr (hh ▸ h)).elim⟩
  · exact ⟨fun _ => h,fun _ => rfl⟩
  · exact ⟨fun hh => absurd hh (by decide),fun hh => (lt3_irr (hh ▸ h)).elim⟩
theorem cmp_flip (a b : TRes) : cmpS (b,a) = 0 - cmpS (a,b) := by
  rcases cmp3 a b with ⟨e,h⟩ | ⟨e,h⟩ | ⟨e,h⟩ <;> rcases cmp3 b a with ⟨f,k⟩ | ⟨f,k⟩ | ⟨f,k⟩ <;> rw [e,f] <;> first | rfl | exact (lt3_anti h k).elim | (subst h; exact (lt3_irr k).elim) | (subst k; exact (lt3_irr h).elim)
theorem cmp_range (a b : TRes) : -1 ≤ cmpS (a,b) ∧ cmpS (a,b) ≤ 1 := by
  rcases cmp3 a b with ⟨e,h⟩ | ⟨e,h⟩ | ⟨e,h⟩ <;> rw [e] <;> decide

theorem f85.ok (a : TRes × TRes × TRes) (h : f85.lpre a) : f85.vc a := by
  obtain ⟨a,b,c⟩ := a
  have r := cmp_range a b
  have t1 : 0 < cmpS (a,b) → 0 < cmpS (b,c) → 0 < cmpS (a,c) := fun h k => cmp_pos.2 (lt3_trans (cmp_pos.1 k) (cmp_pos.1 h))
  have t2 : cmpS (a,b) < 0 → cmpS (b,c) < 0 → cmpS (a,c) < 0 := fun h k => cmp_neg.2 (lt3_trans (cmp_neg.1 h) (cmp_neg.1 k))
  have te : (cmpS (a,b) == 0) = (a.1 == b.1 && (a.2.1 == b.2.1 && a.2.2 == b.2.2)) := by
    rw [Bool.eq_iff_iff]
    simp only [beq_iff_eq,Bool.and_eq_true,cmp_zero]
    exact ⟨fun e => by subst e; exact ⟨rfl,rfl,rfl⟩,fun ⟨e1,e2,e3⟩ => Prod.ext e1 (Prod.ext e2 e3)⟩
  unfold f85.vc
  simp only [lawTrue]
  refine ⟨fun k => absurd trivial k,fun _ => ⟨fun k => absurd (cmp_self a) k,fun _ => ⟨by omega,by omega,fun k => absurd (cmp_flip a b) k,fun _ => ⟨fun k => ?_,fun _ => ?_⟩⟩⟩⟩
  · rw [te] at k
    simp at k
  · generalize cmpS (a,b) = x at *
    generalize cmpS (b,c) = y at *
    generalize cmpS (a,c) = z at *
    clear te h
    grind
end Go.Abs
