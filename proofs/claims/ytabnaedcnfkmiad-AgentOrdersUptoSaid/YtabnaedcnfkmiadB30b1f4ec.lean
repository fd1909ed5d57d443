/- Functions, and what the code asks of them: PAgent. -/
import Derived.KernelRfl
import Derived.Test.YtabnaedcnfkmiadBc41c1e0a
import Derived.Test.YtabnaedcnfkmiadB8cd9c866
import Derived.Test.YtabnaedcnfkmiadBa212655c
import Derived.Test.YtabnaedcnfkmiadB8cf22718
set_option linter.unusedVariables false
set_option linter.unusedSimpArgs false
/- Orders for an agent. -/
namespace Go.Abs
open Go

abbrev TItem := ByteArray × Int × Int × TRes
abbrev TOrd := ByteArray × TRes × TRes × List TItem
abbrev TAg := ByteArray × TRes × List TItem
def cmpI (a : Int × Int) : Int := if a.1 < a.2 then -1 else if a.2 < a.1 then 1 else 0
def cmpL : List Int → List Int → Int
  | [],[] => 0
  | [],_ :: _ => -1
  | _ :: _,[] => 1
  | a :: l,b :: m => if cmpI (a,b) ≠ 0 then cmpI (a,b) else cmpL l m
def cmpLs (a : List Int × List Int) : Int := cmpL a.1 a.2
def cmpLs_pre (a : List Int × List Int) : Prop := L20 a.1 ∧ L20 a.2
def cmpS (a : TRes × TRes) : Int :=
  if cmpI (a.1.1,a.2.1) ≠ 0 then cmpI (a.1.1,a.2.1) else if cmpI (a.1.2.1,a.2.2.1) ≠ 0 then cmpI (a.1.2.1,a.2.2.1) else cmpI (a.1.2.2,a.2.2.2)
def seqB : Int → List TItem → Bool
  | _,[] => true
  | last,x :: l => nameB x.1 && decide (last < x.2.1) && decide (1 ≤ x.2.2.1) && seqB x.2.1 l
def needs (l : List TItem) : List TRes := l.map fun x => x.2.2.2
def ordB (o : TOrd) : Bool :=
  nameB o.1 && rightB o.2.2.1 && seqB 0 o.2.2.2 && decide (o.2.2.2.map (·.1)).Nodup && decide ((sumR (needs o.2.2.2)).2 = 0) && fitsR ((sumR (needs o.2.2.2)).1,o.2.2.1)
def items_pre (l : List TItem) : Prop := L20 l ∧ ∀ x ∈ l,name_pre x.1
def ord_pre (o : TOrd) : Prop := name_pre o.1 ∧ items_pre o.2.2.2
def newA (s : ByteArray) : TAg := (s,(0,0,0),[])
def cloneI (l : List TItem) : List TItem := l
def takeA (a : TAg × TOrd) : (ByteArray × TRes) × Int × TAg :=
  if ¬ (ordB a.2 = true ∧ a.2.1 = a.1.1) then ((ByteArray.empty,(0,0,0)),1,a.1) else
  if cmpS (a.2.2.1,a.1.2.1) < 0 then ((a.1.1,a.1.2.1),12,a.1) else ((a.1.1,a.2.2.1),0,(a.1.1,a.2.2.1,a.2.2.2.2))
def takeA_pre (a : TAg × TOrd) : Prop := ord_pre a.2
def reportA (a : TAg) : (ByteArray × TRes) × TAg := ((a.1,a.2.1),a)
def madeA (o : TOrd) : TOrd := o
def sameI (a : List TItem × List TItem) : Bool := decide (a.1 = a.2)
def sameI_pre (a : List TItem × List TItem) : Prop := L20 a.1 ∧ L20 a.2
def few24 (l : List TOrd) : Bool := decide (l.length ≤ 60) && l.all fun o => decide (o.2.2.2.length ≤ 60 ∧ o.1.size ≤ 1000) && o.2.2.2.all fun x => decide (x.1.size ≤ 1000)
def few24_pre (l : List TOrd) : Prop := L20 l ∧ ∀ o ∈ l,ord_pre o
end Go.Abs

-- cmp.isNaN[int]
namespace Go.Abs
open Go
def f135.args (a : Int) : List D := [.int .i64 a]
def f135.blks (a : Int) : List (List D) := []
def f135.res (a : Int) : List D := [.bool ((fun _ : Int => false) a)]
def f135.blks' (a : Int) : List (List D) := []
def f135.C : Contract := FnC f135.args f135.blks (fun _ => True) f135.res f135.blks'
end Go.Abs

/- cmp.isNaN[int] -/
namespace Go.Abs
open Go
set_option linter.unusedVariables false
def f135.kills (a : Int) : List Hint := []
def f135.cuts (a : Int) : List (Nat × Σ β : Type,β→Tm) := []
def f135.af (a : Int) : AF := AF.mk (.seq (.region [⟨(some 2),0,.move,[.c (.bool false)],none⟩])
 (.seq (.region [oT 3 1 .move [0],
 oT 4 2 .move [0],
 oT 5 3 (.bin .neq) [3,4],
 oT 2 4 .move [5]])
 (.ret)))
 [.tmp 2] 0 5
def f135.env : Env := []
def f135.tree (a : Int) : Prop := ((a != a) = ((fun _ : Int => false) a))∧True
def f135.vc (a : Int) : Prop := ((a != a) = (fun _ : Int => false) a)
set_option maxRecDepth 100000 in
set_option maxHeartbeats 2000000 in
theorem f135.of (a : Int) (h : f135.vc a) : f135.tree a := ⟨h,trivial⟩
theorem f135.eq (a : Int) : (f135.af a).gives f135.env (f135.args a) (f135.blks a) (f135.res a) (f135.blks' a) = f135.tree a := by kernel_rfl
end Go.Abs

-- cmp.Compare[int]
namespace Go.Abs
open Go
def f130.args (a : Int × Int) : List D := [.int .i64 a.1,.int .i64 a.2]
def f130.blks (a : Int × Int) : List (List D) := []
def f130.res (a : Int × Int) : List D := [.int .i64 (cmpI a)]
def f130.blks' (a : Int × Int) : List (List D) := []
def f130.C : Contract := FnC f130.args f130.blks (fun _ => True) f130.res f130.blks'
end Go.Abs

/- cmp.Compare[int] -/
namespace Go.Abs
open Go
set_option linter.unusedVariables false
def f130.kills (a : Int × Int) : List Hint := []
def f130.cuts (a : Int × Int) : List (Nat × Σ β : Type,β→Tm) := []
def f130.af (a : Int × Int) : AF := AF.mk (.seq (.region [⟨(some 4),0,.move,[.c (.int .i64 (0))],none⟩])
 (.seq (.region [oT 7 1 .move [0],
 oT 8 2 (.call false 135) [7],
 oT 5 6 .move [8]])
 (.seq (.region [oT 9 7 .move [1],
 oT 10 8 (.call false 135) [9],
 oT 6 12 .move [10]])
 (.seq (.seq (.region [oT 11 13 .move [5]])
 (.cond (.t 11) (.seq (.seq (.region [oT 12 14 .move [6]])
 (.cond (.t 12) (.seq (.region [⟨(some 4),15,.move,[.c (.int .i64 (0))],none⟩])
 (.ret)) (.skip)))
 (.seq (.region [⟨(some 4),16,.move,[.c (.int .i64 (-1))],none⟩])
 (.ret))) (.skip)))
 (.seq (.seq (.region [oT 13 17 .move [6]])
 (.cond (.t 13) (.seq (.region [⟨(some 4),18,.move,[.c (.int .i64 (1))],none⟩])
 (.ret)) (.skip)))
 (.seq (.seq (.region [oT 14 19 .move [0],
 oT 15 20 .move [1],
 oT 16 21 (.bin .lss) [14,15]])
 (.cond (.t 16) (.seq (.region [⟨(some 4),22,.move,[.c (.int .i64 (-1))],none⟩])
 (.ret)) (.skip)))
 (.seq (.seq (.region [oT 17 23 .move [0],
 oT 18 24 .move [1],
 oT 19 25 (.bin .gtr) [17,18]])
 (.cond (.t 19) (.seq (.region [⟨(some 4),26,.move,[.c (.int .i64 (1))],none⟩])
 (.ret)) (.skip)))
 (.seq (.region [⟨(some 4),27,.move,[.c (.int .i64 (0))],none⟩])
 (.ret)))))))))
 [.tmp 4] 0 18
def f130.env : Env := [(135,f135.C)]
def f130.tree (a : Int × Int) : Prop := ∃ c1 : Int,(a.1 = c1)∧True∧∃ c2 : Int,(a.2 = c2)∧True∧Br ((fun _ : Int => false) c1) (Br ((fun _ : Int => false) c2) (((0 : Int) = (cmpI a))∧True) (((-1 : Int) = (cmpI a))∧True)) (Br ((fun _ : Int => false) c2) (((1 : Int) = (cmpI a))∧True) (Br (decide (a.1 < a.2)) (((-1 : Int) = (cmpI a))∧True) (Br (decide (a.2 < a.1)) (((1 : Int) = (cmpI a))∧True) (((0 : Int) = (cmpI a))∧True))))
def f130.vc (a : Int × Int) : Prop := ((((fun _ : Int => false) (a.1)) = true→((((fun _ : Int => false) (a.2)) = true→((0 : Int) = cmpI a))∧(¬ (((fun _ : Int => false) (a.2)) = true)→((-1 : Int) = cmpI a))))∧(¬ (((fun _ : Int => false) (a.1)) = true)→((((fun _ : Int => false) (a.2)) = true→((1 : Int) = cmpI a))∧(¬ (((fun _ : Int => false) (a.2)) = true)→((a.1 < a.2→((-1 : Int) = cmpI a))∧(¬ (a.1 < a.2)→((a.2 < a.1→((1 : Int) = cmpI a))∧(¬ (a.2 < a.1)→((0 : Int) = cmpI a)))))))))
set_option maxRecDepth 100000 in
set_option maxHeartbeats 2000000 in
theorem f130.of (a : Int × Int) (h : f130.vc a) : f130.tree a := ⟨a.1,⟨rfl,⟨trivial,⟨a.2,⟨rfl,⟨trivial,br h Cnd.b (fun h3 k27 => br k27 Cnd.b (fun h5 k9 => ⟨k9,trivial⟩) (fun h6 k10 => ⟨k10,trivial⟩)) (fun h4 k28 => br k28 Cnd.b (fun h11 k25 => ⟨k25,trivial⟩) (fun h12 k26 => br k26 Cnd.dec (fun h14 k23 => ⟨k23,trivial⟩) (fun h15 k24 => br k24 Cnd.dec (fun h17 k21 => ⟨k21,trivial⟩) (fun h18 k22 => ⟨k22,trivial⟩))))⟩⟩⟩⟩⟩⟩
theorem f130.eq (a : Int × Int) : (f130.af a).gives f130.env (f130.args a) (f130.blks a) (f130.res a) (f130.blks' a) = f130.tree a := by kernel_rfl
end Go.Abs

-- slices.Compare[[]int,int]
namespace Go.Abs
open Go
def f120.args (a : (List (Int)) × (List (Int))) : List D := [.slice .ro 1 a.1.length (gl e_i64 a.1),.slice .ro 1 a.2.length (gl e_i64 a.2)]
def f120.blks (a : (List (Int)) × (List (Int))) : List (List D) := []
def f120.res (a : (List (Int)) × (List (Int))) : List D := [.int .i64 (cmpLs a)]
def f120.blks' (a : (List (Int)) × (List (Int))) : List (List D) := []
def f120.C : Contract := FnC f120.args f120.blks (fun a => cmpLs_pre a) f120.res f120.blks'
end Go.Abs

/- slices.Compare[[]int,int] -/
namespace Go.Abs
open Go
set_option linter.unusedVariables false
def f120.S0 (a : (List (Int)) × (List (Int))) (x : Int) : Tm := ⟨[.slice .ro 1 a.1.length (gl e_i64 a.1),.slice .ro 1 a.2.length (gl e_i64 a.2),.dead,.dead,.dead,.dead,.dead,.dead,.dead,.slice .ro 1 a.1.length (gl e_i64 a.1),.int .i64 (a.1.length : Int),.int .i64 x,.dead,.dead,.dead,.dead,.dead,.dead,.dead,.dead,.dead,.dead,.dead,.dead,.dead,.dead,.dead,.dead,.dead,.dead,.dead,.dead,.dead,.dead,.dead,.dead],[],[]⟩
def f120.kills (a : (List (Int)) × (List (Int))) : List Hint := [.tell Int (f120.S0 a)]
def f120.cuts (a : (List (Int)) × (List (Int))) : List (Nat × Σ β : Type,β→Tm) := []
def f120.af (a : (List (Int)) × (List (Int))) : AF := AF.mk (.seq (.region [⟨(some 4),0,.move,[.c (.int .i64 (0))],none⟩])
 (.seq (.seq (.region [oT 9 1 .move [0],
 oT 10 2 (.len false) [9],
 ⟨(some 11),3,.move,[.c (.int .i64 (0))],none⟩])
 (.block 0 (.loopT Int (f120.S0 a) 4 33 (.seq (.region [oT 12 4 (.bin .lss) [11,10]])
 (.seq (.cond (.t 12) (.skip) (.exit 0))
 (.seq (.block 1 (.seq (.region [oT 13 5 .move [11],
 oT 14 6 (.indexAddr 1 none) [9,11],
 oT 15 7 (.load false 1) [14],
 oT 5 8 .move [13],
 oT 6 9 .move [15]])
 (.seq (.seq (.region [oT 16 10 .move [5],
 oT 17 11 .move [1],
 oT 18 12 (.len false) [17],
 oT 19 13 (.bin .geq) [16,18]])
 (.cond (.t 19) (.seq (.region [⟨(some 4),14,.move,[.c (.int .i64 (1))],none⟩])
 (.ret)) (.skip)))
 (.seq (.region [oT 20 15 .move [1],
 oT 21 16 .move [5],
 oT 22 17 (.indexAddr 1 none) [20,21],
 oT 23 18 (.load false 1) [22],
 oT 7 19 .move [23]])
 (.seq (.region [oT 24 20 .move [6],
 oT 25 21 .move [7],
 oT 26 22 (.call false 130) [24,25],
 oT 8 26 .move [26]])
 (.seq (.region [oT 27 27 .move [8],
 ⟨(some 28),28,(.bin .neq),[.t 27,.c (.int .i64 (0))],none⟩])
 (.cond (.t 28) (.seq (.region [oT 29 29 .move [8],
 oT 4 30 .move [29]])
 (.ret)) (.skip))))))))
 (.region [⟨(some 30),31,(.bin .add),[.t 11,.c (.int .i64 (1))],none⟩,
 oT 11 32 .move [30]])))))))
 (.seq (.seq (.region [oT 31 33 .move [0],
 oT 32 34 (.len false) [31],
 oT 33 35 .move [1],
 oT 34 36 (.len false) [33],
 oT 35 37 (.bin .lss) [32,34]])
 (.cond (.t 35) (.seq (.region [⟨(some 4),38,.move,[.c (.int .i64 (-1))],none⟩])
 (.ret)) (.skip)))
 (.seq (.region [⟨(some 4),39,.move,[.c (.int .i64 (0))],none⟩])
 (.ret)))))
 [.tmp 4] 0 34
def f120.env : Env := [(130,f130.C)]
def f120.tree (a : (List (Int)) × (List (Int))) : Prop := ∃ (I2 : Int→Prop) (μ3 : Int→Nat),(∃ x1 : Int,SlS e_i64 a.1 (SlS e_i64 a.2 (SlS e_i64 a.1 (((a.1.length : Int) = (a.1.length : Int))∧((0 : Int) = x1)∧I2 x1))))∧∀ y4 : Int,I2 y4→(Br (decide (y4 < (a.1.length : Int))) (Br (decide ((0 : Int)≤y4) && decide (y4 < (a.1.length : Int))) (Br (decide ((a.2.length : Int)≤y4)) (((1 : Int) = (cmpLs a))∧True) (Br (decide ((0 : Int)≤y4) && decide (y4 < (a.2.length : Int))) (∃ c12 : Int × Int,((at_ a.1 y4) = c12.1)∧((at_ a.2 y4) = c12.2)∧True∧Br ((cmpI c12) != (0 : Int)) (((cmpI c12) = (cmpLs a))∧True) (Let (IntKind.i64.wrap (y4 + (1 : Int))) (fun v16 : Int => ∃ x17 : Int,SlS e_i64 a.1 (SlS e_i64 a.2 (SlS e_i64 a.1 (((a.1.length : Int) = (a.1.length : Int))∧(v16 = x17)∧I2 x17∧μ3 x17 < μ3 y4)))))) False)) False) (Br (decide ((a.1.length : Int) < (a.2.length : Int))) (((-1 : Int) = (cmpLs a))∧True) (((0 : Int) = (cmpLs a))∧True)))
def f120.vc (a : (List (Int)) × (List (Int))) : Prop := (∃ (I2 : Int→Prop) (μ3 : Int→Nat),I2 (0 : Int)∧∀ y4 : Int,I2 y4→((y4 < (a.1.length : Int)→((0 : Int)≤y4∧y4 < (a.1.length : Int)∧(((a.2.length : Int)≤y4→((1 : Int) = cmpLs a))∧(¬ ((a.2.length : Int)≤y4)→((0 : Int)≤y4∧y4 < (a.2.length : Int)∧((¬ (cmpI (at_ a.1 y4,at_ a.2 y4)) = (0 : Int)→((cmpI (at_ a.1 y4,at_ a.2 y4)) = cmpLs a))∧(¬ (¬ (cmpI (at_ a.1 y4,at_ a.2 y4)) = (0 : Int))→(-9223372036854775808≤(y4 + (1 : Int))∧(y4 + (1 : Int))≤9223372036854775807∧(I2 (y4 + (1 : Int))∧μ3 (y4 + (1 : Int)) < μ3 y4)))))))))∧(¬ (y4 < (a.1.length : Int))→(((a.1.length : Int) < (a.2.length : Int)→((-1 : Int) = cmpLs a))∧(¬ ((a.1.length : Int) < (a.2.length : Int))→((0 : Int) = cmpLs a))))))
set_option maxRecDepth 100000 in
set_option maxHeartbeats 2000000 in
theorem f120.of (a : (List (Int)) × (List (Int))) (h : f120.vc a) : f120.tree a := Exists.elim h (fun I2 h37_ => Exists.elim h37_ (fun μ3 h37 => ⟨I2,μ3,⟨(0 : Int),SlS.mk  (SlS.mk  (SlS.mk  (⟨rfl,⟨rfl,h37.1⟩⟩)))⟩,fun y4 h39 => br (h37.2 y4 h39) Cnd.dec (fun h5 k35 => chk k35.2.2 Cnd.ix ⟨k35.1,k35.2.1⟩ (fun h7 k28 => br k28 Cnd.dec (fun h8 k26 => ⟨k26,trivial⟩) (fun h9 k27 => chk k27.2.2 Cnd.ix ⟨k27.1,k27.2.1⟩ (fun h11 k25 => ⟨(at_ a.1 y4,at_ a.2 y4),⟨rfl,⟨rfl,⟨trivial,br k25 Cnd.ne (fun h13 k22 => ⟨k22,trivial⟩) (fun h14 k23 => wrapK.i64 k23 (fun h19 h20 k21 => ⟨(y4 + (1 : Int)),SlS.mk  (SlS.mk  (SlS.mk  (⟨rfl,⟨rfl,k21⟩⟩)))⟩))⟩⟩⟩⟩)))) (fun h6 k36 => br k36 Cnd.dec (fun h29 k33 => ⟨k33,trivial⟩) (fun h30 k34 => ⟨k34,trivial⟩))⟩))
theorem f120.eq (a : (List (Int)) × (List (Int))) : (f120.af a).gives f120.env (f120.args a) (f120.blks a) (f120.res a) (f120.blks' a) = f120.tree a := by kernel_rfl
end Go.Abs

-- interregnum/agent.Compare
namespace Go.Abs
open Go
def f99.args (a : T_ar3_i64 × T_ar3_i64) : List D := [.agg [.int .i64 a.1.1,.int .i64 a.1.2.1,.int .i64 a.1.2.2],.agg [.int .i64 a.2.1,.int .i64 a.2.2.1,.int .i64 a.2.2.2]]
def f99.blks (a : T_ar3_i64 × T_ar3_i64) : List (List D) := []
def f99.res (a : T_ar3_i64 × T_ar3_i64) : List D := [.int .i64 (cmpS a)]
def f99.blks' (a : T_ar3_i64 × T_ar3_i64) : List (List D) := []
def f99.C : Contract := FnC f99.args f99.blks (fun _ => True) f99.res f99.blks'
end Go.Abs

/- interregnum/agent.Compare -/
namespace Go.Abs
open Go
set_option linter.unusedVariables false
def f99.kills (a : T_ar3_i64 × T_ar3_i64) : List Hint := []
def f99.cuts (a : T_ar3_i64 × T_ar3_i64) : List (Nat × Σ β : Type,β→Tm) := []
def f99.af (a : T_ar3_i64 × T_ar3_i64) : AF := AF.mk (.seq (.region [oT 2 0 .box [0],
 oT 3 1 .box [1],
 ⟨(some 4),2,.move,[.c (.int .i64 (0))],none⟩])
 (.seq (.orders [[oT 5 3 (.sliceArr 1 3 0) [2],oT 6 4 (.sliceArr 1 3 0) [3],oT 7 5 (.call false 120) [5,6],oT 4 9 .move [7]],
 [oT 6 4 (.sliceArr 1 3 0) [3],oT 5 3 (.sliceArr 1 3 0) [2],oT 7 5 (.call false 120) [5,6],oT 4 9 .move [7]]])
 (.ret)))
 [.tmp 4] 0 6
def f99.env : Env := [(120,f120.C)]
def f99.tree (a : T_ar3_i64 × T_ar3_i64) : Prop := (∃ c1 : (List (Int)) × (List (Int)),SlQ 3 c1.1.length (fun j => List.take 1 (List.drop (0 + j * 1) [.int .i64 a.1.1,.int .i64 a.1.2.1,.int .i64 a.1.2.2])) (gl e_i64 c1.1) (SlQ 3 c1.2.length (fun j => List.take 1 (List.drop (0 + j * 1) [.int .i64 a.2.1,.int .i64 a.2.2.1,.int .i64 a.2.2.2])) (gl e_i64 c1.2) ((cmpLs_pre c1)∧((cmpLs c1) = (cmpS a))∧True)))∧(∃ c1 : (List (Int)) × (List (Int)),SlQ 3 c1.1.length (fun j => List.take 1 (List.drop (0 + j * 1) [.int .i64 a.1.1,.int .i64 a.1.2.1,.int .i64 a.1.2.2])) (gl e_i64 c1.1) (SlQ 3 c1.2.length (fun j => List.take 1 (List.drop (0 + j * 1) [.int .i64 a.2.1,.int .i64 a.2.2.1,.int .i64 a.2.2.2])) (gl e_i64 c1.2) ((cmpLs_pre c1)∧((cmpLs c1) = (cmpS a))∧True)))
def f99.vc (a : T_ar3_i64 × T_ar3_i64) : Prop := (cmpLs_pre ([a.1.1,a.1.2.1,a.1.2.2],[a.2.1,a.2.2.1,a.2.2.2])∧((cmpLs ([a.1.1,a.1.2.1,a.1.2.2],[a.2.1,a.2.2.1,a.2.2.2])) = cmpS a))
set_option maxRecDepth 100000 in
set_option maxHeartbeats 2000000 in
theorem f99.of (a : T_ar3_i64 × T_ar3_i64) (h : f99.vc a) : f99.tree a := ⟨⟨([a.1.1,a.1.2.1,a.1.2.2],[a.2.1,a.2.2.1,a.2.2.2]),slQ (Rds.row (enc := e_i64) ⟨rfl,fun i hi => by repeat (first | rfl | exact absurd hi (Nat.not_lt.2 (Nat.le_add_left 3 _)) | (cases i with | zero => rfl | succ i => ?_))⟩) (slQ (Rds.row (enc := e_i64) ⟨rfl,fun i hi => by repeat (first | rfl | exact absurd hi (Nat.not_lt.2 (Nat.le_add_left 3 _)) | (cases i with | zero => rfl | succ i => ?_))⟩) (⟨h.1,⟨h.2,trivial⟩⟩))⟩,⟨([a.1.1,a.1.2.1,a.1.2.2],[a.2.1,a.2.2.1,a.2.2.2]),slQ (Rds.row (enc := e_i64) ⟨rfl,fun i hi => by repeat (first | rfl | exact absurd hi (Nat.not_lt.2 (Nat.le_add_left 3 _)) | (cases i with | zero => rfl | succ i => ?_))⟩) (slQ (Rds.row (enc := e_i64) ⟨rfl,fun i hi => by repeat (first | rfl | exact absurd hi (Nat.not_lt.2 (Nat.le_add_left 3 _)) | (cases i with | zero => rfl | succ i => ?_))⟩) (⟨h.1,⟨h.2,trivial⟩⟩))⟩⟩
theorem f99.eq (a : T_ar3_i64 × T_ar3_i64) : (f99.af a).gives f99.env (f99.args a) (f99.blks a) (f99.res a) (f99.blks' a) = f99.tree a := by kernel_rfl
end Go.Abs

-- interregnum/interregnumref24.Compare
namespace Go.Abs
open Go
def f123.args (a : (Int × Int × Int) × (Int × Int × Int)) : List D := [.agg [.int .i64 a.1.1,.int .i64 a.1.2.1,.int .i64 a.1.2.2],.agg [.int .i64 a.2.1,.int .i64 a.2.2.1,.int .i64 a.2.2.2]]
def f123.blks (a : (Int × Int × Int) × (Int × Int × Int)) : List (List D) := []
def f123.res (a : (Int × Int × Int) × (Int × Int × Int)) : List D := [.int .i64 (cmpS a)]
def f123.blks' (a : (Int × Int × Int) × (Int × Int × Int)) : List (List D) := []
def f123.C : Contract := FnC f123.args f123.blks (fun _ => True) f123.res f123.blks'
end Go.Abs

/- interregnum/interregnumref24.Compare -/
namespace Go.Abs
open Go
set_option linter.unusedVariables false
def f123.kills (a : (Int × Int × Int) × (Int × Int × Int)) : List Hint := [.unroll 4 [0,1,4,6,7,8,9,10,11,12,13,14,15,16,17,18,19,20,21,22,23] [0,1] []]
def f123.cuts (a : (Int × Int × Int) × (Int × Int × Int)) : List (Nat × Σ β : Type,β→Tm) := []
def f123.af (a : (Int × Int × Int) × (Int × Int × Int)) : AF := AF.mk (.seq (.region [oT 2 0 .box [0],
 oT 3 1 .box [1],
 ⟨(some 4),2,.move,[.c (.int .i64 (0))],none⟩])
 (.seq (.seq (.region [⟨(some 5),3,.move,[.c (.int .i64 (0))],none⟩])
 (.block 0 (.loop 4 [0,1,4,6,7,8,9,10,11,12,13,14,15,16,17,18,19,20,21,22,23] [0,1] [] 4 25 (.seq (.seq (.region [oT 6 4 .move [5],
 ⟨(some 7),5,(.bin .lss),[.t 6,.c (.int .i64 (3))],none⟩])
 (.cond (.t 7) (.skip) (.exit 0)))
 (.seq (.block 1 (.seq (.seq (.region [oT 10 6 .move [5],
 oT 11 7 (.indexAddr 1 (some 3)) [2,10],
 oT 12 8 (.load false 1) [11],
 oT 13 9 .move [5],
 oT 14 10 (.indexAddr 1 (some 3)) [3,13],
 oT 15 11 (.load false 1) [14],
 oT 16 12 (.bin .lss) [12,15]])
 (.cond (.t 16) (.seq (.region [⟨(some 4),13,.move,[.c (.int .i64 (-1))],none⟩])
 (.ret)) (.skip)))
 (.seq (.region [oT 17 14 .move [5],
 oT 18 15 (.indexAddr 1 (some 3)) [2,17],
 oT 19 16 (.load false 1) [18],
 oT 20 17 .move [5],
 oT 21 18 (.indexAddr 1 (some 3)) [3,20],
 oT 22 19 (.load false 1) [21],
 oT 23 20 (.bin .gtr) [19,22]])
 (.cond (.t 23) (.seq (.region [⟨(some 4),21,.move,[.c (.int .i64 (1))],none⟩])
 (.ret)) (.skip)))))
 (.region [oT 8 22 .move [5],
 ⟨(some 9),23,(.bin .add),[.t 8,.c (.int .i64 (1))],none⟩,
 oT 5 24 .move [9]]))))))
 (.seq (.region [⟨(some 4),25,.move,[.c (.int .i64 (0))],none⟩])
 (.ret))))
 [.tmp 4] 0 22
def f123.env : Env := []
def f123.tree (a : (Int × Int × Int) × (Int × Int × Int)) : Prop := Br (decide (a.1.1 < a.2.1)) (((-1 : Int) = (cmpS a))∧True) (Br (decide (a.2.1 < a.1.1)) (((1 : Int) = (cmpS a))∧True) (Br (decide (a.1.2.1 < a.2.2.1)) (((-1 : Int) = (cmpS a))∧True) (Br (decide (a.2.2.1 < a.1.2.1)) (((1 : Int) = (cmpS a))∧True) (Br (decide (a.1.2.2 < a.2.2.2)) (((-1 : Int) = (cmpS a))∧True) (Br (decide (a.2.2.2 < a.1.2.2)) (((1 : Int) = (cmpS a))∧True) (((0 : Int) = (cmpS a))∧True))))))
def f123.vc (a : (Int × Int × Int) × (Int × Int × Int)) : Prop := ((a.1.1 < a.2.1→((-1 : Int) = cmpS a))∧(¬ (a.1.1 < a.2.1)→((a.2.1 < a.1.1→((1 : Int) = cmpS a))∧(¬ (a.2.1 < a.1.1)→((a.1.2.1 < a.2.2.1→((-1 : Int) = cmpS a))∧(¬ (a.1.2.1 < a.2.2.1)→((a.2.2.1 < a.1.2.1→((1 : Int) = cmpS a))∧(¬ (a.2.2.1 < a.1.2.1)→((a.1.2.2 < a.2.2.2→((-1 : Int) = cmpS a))∧(¬ (a.1.2.2 < a.2.2.2)→((a.2.2.2 < a.1.2.2→((1 : Int) = cmpS a))∧(¬ (a.2.2.2 < a.1.2.2)→((0 : Int) = cmpS a)))))))))))))
set_option maxRecDepth 100000 in
set_option maxHeartbeats 2000000 in
theorem f123.of (a : (Int × Int × Int) × (Int × Int × Int)) (h : f123.vc a) : f123.tree a := br h Cnd.dec (fun h1 k30 => ⟨k30,trivial⟩) (fun h2 k31 => br k31 Cnd.dec (fun h4 k28 => ⟨k28,trivial⟩) (fun h5 k29 => br k29 Cnd.dec (fun h7 k26 => ⟨k26,trivial⟩) (fun h8 k27 => br k27 Cnd.dec (fun h10 k24 => ⟨k24,trivial⟩) (fun h11 k25 => br k25 Cnd.dec (fun h13 k22 => ⟨k22,trivial⟩) (fun h14 k23 => br k23 Cnd.dec (fun h16 k20 => ⟨k20,trivial⟩) (fun h17 k21 => ⟨k21,trivial⟩))))))
theorem f123.eq (a : (Int × Int × Int) × (Int × Int × Int)) : (f123.af a).gives f123.env (f123.args a) (f123.blks a) (f123.res a) (f123.blks' a) = f123.tree a := by kernel_rfl
end Go.Abs

-- interregnum/agent.Right
namespace Go.Abs
open Go
def f108.args (a : T_agent_Order) : List D := [.agg [.str a.1,.int .i64 a.2.1.1,.int .i64 a.2.1.2.1,.int .i64 a.2.1.2.2,.int .i64 a.2.2.1.1,.int .i64 a.2.2.1.2.1,.int .i64 a.2.2.1.2.2,.slice .ro 6 a.2.2.2.length (gl e_agent_Item a.2.2.2)]]
def f108.blks (a : T_agent_Order) : List (List D) := []
def f108.res (a : T_agent_Order) : List D := [.bool (ordB a)]
def f108.blks' (a : T_agent_Order) : List (List D) := []
def f108.C : Contract := FnC f108.args f108.blks (fun a => ord_pre a) f108.res f108.blks'
end Go.Abs

/- interregnum/agent.Right -/
namespace Go.Abs
open Go
set_option linter.unusedVariables false
def f108.S0 (a : T_agent_Order) (x : (List (T_ar3_i64)) × Int × Int × (List (ByteArray × Unit))) : Tm := ⟨[.dead,.ptr 0 0,.dead,.mref 19,.slice (.own 21) 3 x.1.length (gl e_ar3_i64 x.1),.int .i64 x.2.1,.dead,.dead,.dead,.dead,.dead,.dead,.dead,.dead,.dead,.dead,.dead,.dead,.dead,.dead,.dead,.dead,.slice .ro 6 a.2.2.2.length (gl e_agent_Item a.2.2.2),.int .i64 (a.2.2.2.length : Int),.int .i64 x.2.2.1,.dead,.dead,.dead,.dead,.dead,.dead,.dead,.dead,.dead,.dead,.dead,.dead,.dead,.dead,.dead,.dead,.dead,.dead,.dead,.dead,.dead,.dead,.dead,.dead,.dead,.dead,.dead,.dead,.dead,.dead,.dead,.dead,.dead,.dead,.dead,.dead,.dead,.dead,.dead,.dead,.dead,.dead,.dead,.dead,.dead,.dead,.dead,.dead,.dead,.dead,.dead],[(0,false,[.str a.1,.int .i64 a.2.1.1,.int .i64 a.2.1.2.1,.int .i64 a.2.1.2.2,.int .i64 a.2.2.1.1,.int .i64 a.2.2.1.2.1,.int .i64 a.2.2.1.2.2,.slice .ro 6 a.2.2.2.length (gl e_agent_Item a.2.2.2)]),(19,false,[.dead,.mp true (List.length x.2.2.2) (mks x.2.2.2) (mvs e_unit x.2.2.2)])],[(21,3,x.1.length)]⟩
def f108.kills (a : T_agent_Order) : List Hint := [.tell ((List (T_ar3_i64)) × Int × Int × (List (ByteArray × Unit))) (f108.S0 a)]
def f108.cuts (a : T_agent_Order) : List (Nat × Σ β : Type,β→Tm) := []
def f108.af (a : T_agent_Order) : AF := AF.mk (.seq (.region [oT 1 0 .box [0],
 ⟨(some 2),1,.move,[.c (.bool false)],none⟩])
 (.seq (.seq (.region [oT 10 2 (.fieldAddr 0) [1],
 oT 11 3 (.load false 1) [10],
 oT 12 4 (.call false 48) [11],
 oT 13 8 (.un .not) [12],
 oT 14 9 .move [13],
 oG 15 10 (.fieldAddr 4) [1] 14 false,
 oG 16 11 (.load true 3) [15] 14 false,
 oG 17 12 (.call false 49) [16] 14 false,
 oG 18 16 (.un .not) [17] 14 false,
 ⟨(some 19),17,.pick,[.t 14,.c (.bool true),.t 18],none⟩])
 (.cond (.t 19) (.seq (.region [⟨(some 2),18,.move,[.c (.bool false)],none⟩])
 (.ret)) (.skip)))
 (.seq (.region [oT 20 19 (.mkMap true) [],
 oT 3 20 .move [20]])
 (.seq (.region [oT 4 21 (.nilSl 3) []])
 (.seq (.region [⟨(some 5),22,.move,[.c (.int .i64 (0))],none⟩])
 (.seq (.seq (.region [oT 21 23 (.fieldAddr 7) [1],
 oT 22 24 (.load false 1) [21],
 oT 23 25 (.len false) [22],
 ⟨(some 24),26,.move,[.c (.int .i64 (0))],none⟩])
 (.block 0 (.loopT ((List (T_ar3_i64)) × Int × Int × (List (ByteArray × Unit))) (f108.S0 a) 27 73 (.seq (.region [oT 25 27 (.bin .lss) [24,23]])
 (.seq (.cond (.t 25) (.skip) (.exit 0))
 (.seq (.block 1 (.seq (.region [oT 26 28 (.indexAddr 6 none) [22,24],
 oT 27 29 (.load true 6) [26],
 oT 7 30 (.alloc [.str ByteArray.empty,.int .i64 (0),.int .i64 (0),.int .i64 (0),.int .i64 (0),.int .i64 (0)]) [],
 ⟨none,37,(.store 6),[.t 7,.t 27],none⟩])
 (.seq (.seq (.region [oT 28 38 (.fieldAddr 0) [7],
 oT 29 39 (.load false 1) [28],
 oT 30 40 (.call false 48) [29],
 oT 31 44 (.un .not) [30],
 oT 32 45 .move [31],
 oG 33 46 (.fieldAddr 1) [7] 32 false,
 oG 34 47 (.load false 1) [33] 32 false,
 oG 35 48 .move [5] 32 false,
 oG 36 49 (.bin .leq) [34,35] 32 false,
 ⟨(some 37),50,.pick,[.t 32,.c (.bool true),.t 36],none⟩,
 oT 38 51 .move [37],
 oG 39 52 (.fieldAddr 2) [7] 38 false,
 oG 40 53 (.load false 1) [39] 38 false,
 ⟨(some 41),54,(.bin .lss),[.t 40,.c (.int .i64 (1))],(some (38,false))⟩,
 ⟨(some 42),55,.pick,[.t 38,.c (.bool true),.t 41],none⟩])
 (.cond (.t 42) (.seq (.region [⟨(some 2),56,.move,[.c (.bool false)],none⟩])
 (.ret)) (.skip)))
 (.seq (.region [oT 43 57 .move [3],
 oT 44 58 (.fieldAddr 0) [7],
 oT 45 59 (.load false 1) [44],
 oT 46 60 (.build [] []) [],
 ⟨none,61,.mapSet,[.t 43,.t 45,.t 46],none⟩])
 (.seq (.region [oT 47 62 .move [4],
 oT 48 63 (.fieldAddr 3) [7],
 oT 49 64 (.load true 3) [48],
 oT 50 65 (.buildSlice 3 1 [.int .i64 (0),.int .i64 (0),.int .i64 (0)] [(0,3)]) [49],
 oT 51 66 (.append 3 24) [47,50],
 oT 4 67 .move [51]])
 (.region [oT 52 68 (.fieldAddr 1) [7],
 oT 53 69 (.load false 1) [52],
 oT 5 70 .move [53]]))))))
 (.region [⟨(some 54),71,(.bin .add),[.t 24,.c (.int .i64 (1))],none⟩,
 oT 24 72 .move [54]])))))))
 (.seq (.region [oT 56 73 .move [4],
 oT 57 74 (.call false 52) [56],
 oT 55 78 .move [57],
 oT 58 79 (.extract 0) [55],
 oT 59 80 (.extract 1) [55],
 oT 8 81 (.alloc [.int .i64 (0),.int .i64 (0),.int .i64 (0)]) [],
 ⟨none,85,(.store 3),[.t 8,.t 58],none⟩,
 oT 9 86 .move [59]])
 (.seq (.region [oT 60 87 .move [9],
 ⟨(some 61),88,(.bin .eql),[.t 60,.c (.int .i64 (0))],none⟩,
 oT 62 89 .move [61],
 oG 63 90 .move [3] 62 true,
 oG 64 91 .mapLen [63] 62 true,
 oG 65 92 (.fieldAddr 7) [1] 62 true,
 oG 66 93 (.load false 1) [65] 62 true,
 oG 67 94 (.len false) [66] 62 true,
 oG 68 95 (.bin .eql) [64,67] 62 true,
 ⟨(some 69),96,.pick,[.t 62,.t 68,.c (.bool false)],none⟩,
 oT 70 97 .move [69],
 oG 71 98 (.load true 3) [8] 70 true,
 oG 72 99 (.fieldAddr 4) [1] 70 true,
 oG 73 100 (.load true 3) [72] 70 true,
 oG 74 101 (.call false 34) [71,73] 70 true,
 ⟨(some 75),105,.pick,[.t 70,.t 74,.c (.bool false)],none⟩,
 oT 2 106 .move [75]])
 (.ret)))))))))
 [.tmp 2] 0 75
def f108.env : Env := [(48,f48.C),(49,f49.C),(52,f52.C),(34,f34.C)]
def f108.tree (a : T_agent_Order) : Prop := ∃ c1 : ByteArray,(a.1 = c1)∧(name_pre c1)∧Br (!(nameB c1)) ((false = (ordB a))∧True) (∃ c5 : T_ar3_i64,(a.2.2.1.1 = c5.1)∧(a.2.2.1.2.1 = c5.2.1)∧(a.2.2.1.2.2 = c5.2.2)∧True∧Br (!(rightB c5)) ((false = (ordB a))∧True) (∃ (I10 : ((List (T_ar3_i64)) × Int × Int × (List (ByteArray × Unit)))→Prop) (μ11 : ((List (T_ar3_i64)) × Int × Int × (List (ByteArray × Unit)))→Nat),(∃ x9 : (List (T_ar3_i64)) × Int × Int × (List (ByteArray × Unit)),SlQ 0 x9.1.length gnil (gl e_ar3_i64 x9.1) (((0 : Int) = x9.2.1)∧SlS e_agent_Item a.2.2.2 (((a.2.2.2.length : Int) = (a.2.2.2.length : Int))∧((0 : Int) = x9.2.2.1)∧(a.1 = a.1)∧(a.2.1.1 = a.2.1.1)∧(a.2.1.2.1 = a.2.1.2.1)∧(a.2.1.2.2 = a.2.1.2.2)∧(a.2.2.1.1 = a.2.2.1.1)∧(a.2.2.1.2.1 = a.2.2.1.2.1)∧(a.2.2.1.2.2 = a.2.2.1.2.2)∧SlS e_agent_Item a.2.2.2 ((0 = (List.length x9.2.2.2))∧(∀ i,i < (List.length x9.2.2.2)→(fun _ => .empty) i = (mks x9.2.2.2) i)∧(∀ i,i < (List.length x9.2.2.2)→DEqs (gnil i) ((mvs e_unit x9.2.2.2) i))∧(0 = x9.1.length)∧I10 x9))))∧∀ y12 : (List (T_ar3_i64)) × Int × Int × (List (ByteArray × Unit)),I10 y12→(Br (decide (y12.2.2.1 < (a.2.2.2.length : Int))) (Br (decide ((0 : Int)≤y12.2.2.1) && decide (y12.2.2.1 < (a.2.2.2.length : Int))) (∃ c16 : ByteArray,(((at_ a.2.2.2 y12.2.2.1).1) = c16)∧(name_pre c16)∧Br (!(nameB c16)) ((false = (ordB a))∧True) (Br (decide (((at_ a.2.2.2 y12.2.2.1).2.1)≤y12.2.1)) ((false = (ordB a))∧True) (Br (decide (((at_ a.2.2.2 y12.2.2.1).2.2.1) < (1 : Int))) ((false = (ordB a))∧True) ((y12.1.length = y12.1.length∧room ((y12.1.length + 1) * 24))∧(Let (IntKind.i64.wrap (y12.2.2.1 + (1 : Int))) (fun v26 : Int => ∃ x27 : (List (T_ar3_i64)) × Int × Int × (List (ByteArray × Unit)),SlQ (y12.1.length + 1) x27.1.length (gapp (gl e_ar3_i64 y12.1) y12.1.length (fun _ => [.int .i64 (((at_ a.2.2.2 y12.2.2.1).2.2.2).1),.int .i64 (((at_ a.2.2.2 y12.2.2.1).2.2.2).2.1),.int .i64 (((at_ a.2.2.2 y12.2.2.1).2.2.2).2.2)])) (gl e_ar3_i64 x27.1) ((((at_ a.2.2.2 y12.2.2.1).2.1) = x27.2.1)∧SlS e_agent_Item a.2.2.2 (((a.2.2.2.length : Int) = (a.2.2.2.length : Int))∧(v26 = x27.2.2.1)∧(a.1 = a.1)∧(a.2.1.1 = a.2.1.1)∧(a.2.1.2.1 = a.2.1.2.1)∧(a.2.1.2.2 = a.2.1.2.2)∧(a.2.2.1.1 = a.2.2.1.1)∧(a.2.2.1.2.1 = a.2.2.1.2.1)∧(a.2.2.1.2.2 = a.2.2.1.2.2)∧SlS e_agent_Item a.2.2.2 (((mpN (mks y12.2.2.2) ((at_ a.2.2.2 y12.2.2.1).1) (List.length y12.2.2.2)) = (List.length x27.2.2.2))∧(∀ i,i < (List.length x27.2.2.2)→(mpKs (mks y12.2.2.2) ((at_ a.2.2.2 y12.2.2.1).1) (List.length y12.2.2.2)) i = (mks x27.2.2.2) i)∧(∀ i,i < (List.length x27.2.2.2)→DEqs ((mpVs (mks y12.2.2.2) (mvs e_unit y12.2.2.2) ((at_ a.2.2.2 y12.2.2.1).1) [] (List.length y12.2.2.2)) i) ((mvs e_unit x27.2.2.2) i))∧((y12.1.length + 1) = x27.1.length)∧I10 x27∧μ11 x27 < μ11 y12))))))))) False) (∃ c40 : List (T_ar3_i64),SlQ y12.1.length c40.length (gl e_ar3_i64 y12.1) (gl e_ar3_i64 c40) ((L20 c40)∧Br (((sumR c40).2) == (0 : Int)) (Br ((List.length y12.2.2.2 : Int) == (a.2.2.2.length : Int)) (∃ c45 : T_ar3_i64 × T_ar3_i64,((((sumR c40).1).1) = c45.1.1)∧((((sumR c40).1).2.1) = c45.1.2.1)∧((((sumR c40).1).2.2) = c45.1.2.2)∧(a.2.2.1.1 = c45.2.1)∧(a.2.2.1.2.1 = c45.2.2.1)∧(a.2.2.1.2.2 = c45.2.2.2)∧True∧((fitsR c45) = (ordB a))∧True) ((false = (ordB a))∧True)) ((false = (ordB a))∧True))))))
def f108.vc (a : T_agent_Order) : Prop := (name_pre a.1∧((¬ ((nameB (a.1)) = true)→(false = ordB a))∧(¬ (¬ ((nameB (a.1)) = true))→((¬ ((rightB (a.2.2.1)) = true)→(false = ordB a))∧(¬ (¬ ((rightB (a.2.2.1)) = true))→(∃ (I10 : ((List (T_ar3_i64)) × Int × Int × (List (ByteArray × Unit)))→Prop) (μ11 : ((List (T_ar3_i64)) × Int × Int × (List (ByteArray × Unit)))→Nat),I10 ([],(0 : Int),(0 : Int),[])∧∀ y12 : (List (T_ar3_i64)) × Int × Int × (List (ByteArray × Unit)),I10 y12→((y12.2.2.1 < (a.2.2.2.length : Int)→((0 : Int)≤y12.2.2.1∧y12.2.2.1 < (a.2.2.2.length : Int)∧(name_pre ((at_ a.2.2.2 y12.2.2.1).1)∧((¬ ((nameB ((at_ a.2.2.2 y12.2.2.1).1)) = true)→(false = ordB a))∧(¬ (¬ ((nameB ((at_ a.2.2.2 y12.2.2.1).1)) = true))→((((at_ a.2.2.2 y12.2.2.1).2.1)≤y12.2.1→(false = ordB a))∧(¬ (((at_ a.2.2.2 y12.2.2.1).2.1)≤y12.2.1)→((((at_ a.2.2.2 y12.2.2.1).2.2.1) < (1 : Int)→(false = ordB a))∧(¬ (((at_ a.2.2.2 y12.2.2.1).2.2.1) < (1 : Int))→(y12.1.length + 1≤1073741824∧(-9223372036854775808≤(y12.2.2.1 + (1 : Int))∧(y12.2.2.1 + (1 : Int))≤9223372036854775807∧(I10 (y12.1 ++ ([((at_ a.2.2.2 y12.2.2.1).2.2.2)]),(at_ a.2.2.2 y12.2.2.1).2.1,(y12.2.2.1 + (1 : Int)),mset y12.2.2.2 ((at_ a.2.2.2 y12.2.2.1).1) ())∧μ11 (y12.1 ++ ([((at_ a.2.2.2 y12.2.2.1).2.2.2)]),(at_ a.2.2.2 y12.2.2.1).2.1,(y12.2.2.1 + (1 : Int)),mset y12.2.2.2 ((at_ a.2.2.2 y12.2.2.1).1) ()) < μ11 y12))))))))))))∧(¬ (y12.2.2.1 < (a.2.2.2.length : Int))→(L20 y12.1∧((((sumR (y12.1)).2) = (0 : Int)→(((List.length y12.2.2.2 : Int) = (a.2.2.2.length : Int)→((fitsR (((sumR (y12.1)).1),a.2.2.1)) = ordB a))∧(¬ ((List.length y12.2.2.2 : Int) = (a.2.2.2.length : Int))→(false = ordB a))))∧(¬ (((sumR (y12.1)).2) = (0 : Int))→(false = ordB a))))))))))))
set_option maxRecDepth 100000 in
set_option maxHeartbeats 2000000 in
theorem f108.of (a : T_agent_Order) (h : f108.vc a) : f108.tree a := ⟨a.1,⟨rfl,⟨h.1,br h.2 (Cnd.not Cnd.b) (fun h2 k63 => ⟨k63,trivial⟩) (fun h3 k64 => ⟨a.2.2.1,⟨rfl,⟨rfl,⟨rfl,⟨trivial,br k64 (Cnd.not Cnd.b) (fun h6 k60 => ⟨k60,trivial⟩) (fun h7 k61 => Exists.elim k61 (fun I10 h57_ => Exists.elim h57_ (fun μ11 h57 => ⟨I10,μ11,⟨([],(0 : Int),(0 : Int),[]),slQ (Rds.nil (enc := e_ar3_i64)) (⟨rfl,SlS.mk  (⟨rfl,⟨rfl,⟨rfl,⟨rfl,⟨rfl,⟨rfl,⟨rfl,⟨rfl,⟨rfl,SlS.mk  (mpK Mds.nil (⟨(numR gnil (Rds.nil (enc := e_ar3_i64))),h57.1⟩))⟩⟩⟩⟩⟩⟩⟩⟩⟩)⟩)⟩,fun y12 h59 => br (h57.2 y12 h59) Cnd.dec (fun h13 k55 => chk k55.2.2 Cnd.ix ⟨k55.1,k55.2.1⟩ (fun h15 k39 => ⟨(at_ a.2.2.2 y12.2.2.1).1,⟨rfl,⟨k39.1,br k39.2 (Cnd.not Cnd.b) (fun h17 k36 => ⟨k36,trivial⟩) (fun h18 k37 => br k37 Cnd.dec (fun h20 k34 => ⟨k34,trivial⟩) (fun h21 k35 => br k35 Cnd.dec (fun h23 k32 => ⟨k32,trivial⟩) (fun h24 k33 => ⟨⟨rfl,(room_of k33.1 (by decide))⟩,wrapK.i64 k33.2 (fun h29 h30 k31 => ⟨(y12.1 ++ ([((at_ a.2.2.2 y12.2.2.1).2.2.2)]),(at_ a.2.2.2 y12.2.2.1).2.1,(y12.2.2.1 + (1 : Int)),mset y12.2.2.2 ((at_ a.2.2.2 y12.2.2.1).1) ()),slQ (Rds.app (enc := e_ar3_i64) (Rds.self (enc := e_ar3_i64)) (Rds.one (enc := e_ar3_i64) (DEqs.refl _))) (⟨rfl,SlS.mk  (⟨rfl,⟨rfl,⟨rfl,⟨rfl,⟨rfl,⟨rfl,⟨rfl,⟨rfl,⟨rfl,SlS.mk  (mpK (Mds.set (enc := e_unit) (Mds.self (enc := e_unit)) (DEqs.refl _)) (⟨(numR (gapp (gl e_ar3_i64 y12.1) y12.1.length (fun _ => [.int .i64 (((at_ a.2.2.2 y12.2.2.1).2.2.2).1),.int .i64 (((at_ a.2.2.2 y12.2.2.1).2.2.2).2.1),.int .i64 (((at_ a.2.2.2 y12.2.2.1).2.2.2).2.2)])) (Rds.app (enc := e_ar3_i64) (Rds.self (enc := e_ar3_i64)) (Rds.one (enc := e_ar3_i64) (DEqs.refl _)))),k31⟩))⟩⟩⟩⟩⟩⟩⟩⟩⟩)⟩)⟩)⟩)))⟩⟩⟩)) (fun h14 k56 => ⟨y12.1,slQ (Rds.self (enc := e_ar3_i64)) (⟨k56.1,br k56.2 Cnd.eq (fun h41 k52 => br k52 Cnd.eq (fun h43 k49 => ⟨(((sumR (y12.1)).1),a.2.2.1),⟨rfl,⟨rfl,⟨rfl,⟨rfl,⟨rfl,⟨rfl,⟨trivial,⟨k49,trivial⟩⟩⟩⟩⟩⟩⟩⟩⟩) (fun h44 k50 => ⟨k50,trivial⟩)) (fun h42 k53 => ⟨k53,trivial⟩)⟩)⟩)⟩)))⟩⟩⟩⟩⟩)⟩⟩⟩
theorem f108.eq (a : T_agent_Order) : (f108.af a).gives f108.env (f108.args a) (f108.blks a) (f108.res a) (f108.blks' a) = f108.tree a := by kernel_rfl
end Go.Abs

-- interregnum/interregnumref24.Right
namespace Go.Abs
open Go
def f122.args (a : T_interregnumref24_Order) : List D := [.agg [.str a.1,.int .i64 a.2.1.1,.int .i64 a.2.1.2.1,.int .i64 a.2.1.2.2,.int .i64 a.2.2.1.1,.int .i64 a.2.2.1.2.1,.int .i64 a.2.2.1.2.2,.slice .ro 6 a.2.2.2.length (gl e_interregnumref24_Item a.2.2.2)]]
def f122.blks (a : T_interregnumref24_Order) : List (List D) := []
def f122.res (a : T_interregnumref24_Order) : List D := [.bool (ordB a)]
def f122.blks' (a : T_interregnumref24_Order) : List (List D) := []
def f122.C : Contract := FnC f122.args f122.blks (fun a => ord_pre a) f122.res f122.blks'
end Go.Abs

-- interregnum/interregnumref03.Fits
namespace Go.Abs
open Go
def f131.args (a : T_ar3_i64 × T_ar3_i64) : List D := [.agg [.int .i64 a.1.1,.int .i64 a.1.2.1,.int .i64 a.1.2.2],.agg [.int .i64 a.2.1,.int .i64 a.2.2.1,.int .i64 a.2.2.2]]
def f131.blks (a : T_ar3_i64 × T_ar3_i64) : List (List D) := []
def f131.res (a : T_ar3_i64 × T_ar3_i64) : List D := [.bool (fitsR a)]
def f131.blks' (a : T_ar3_i64 × T_ar3_i64) : List (List D) := []
def f131.C : Contract := FnC f131.args f131.blks (fun _ => True) f131.res f131.blks'
end Go.Abs

/- interregnum/interregnumref24.Right -/
namespace Go.Abs
open Go
set_option linter.unusedVariables false
def f122.S0 (a : T_interregnumref24_Order) (x : (List (T_ar3_i64)) × Int) : Tm := ⟨[.dead,.ptr 0 0,.dead,.slice (.own 19) 3 x.1.length (gl e_ar3_i64 x.1),.dead,.dead,.dead,.dead,.dead,.dead,.dead,.dead,.dead,.dead,.dead,.dead,.dead,.dead,.dead,.dead,.dead,.int .i64 (a.2.2.2.length : Int),.int .i64 x.2,.dead,.dead,.dead,.dead,.dead,.dead,.dead,.dead,.dead,.dead,.dead,.dead,.dead,.dead,.dead,.dead,.dead,.dead,.dead,.dead,.dead,.dead,.dead,.dead,.dead,.dead,.dead,.dead,.dead,.dead,.dead,.dead,.dead,.dead,.dead,.dead,.dead,.dead,.dead,.dead,.dead,.dead,.dead,.dead,.dead,.dead,.dead,.dead,.dead,.dead,.dead,.dead,.dead,.dead,.dead,.dead,.dead,.dead,.dead,.dead,.dead,.dead,.dead,.dead,.dead,.dead,.dead,.dead,.dead,.dead],[(0,false,[.str a.1,.int .i64 a.2.1.1,.int .i64 a.2.1.2.1,.int .i64 a.2.1.2.2,.int .i64 a.2.2.1.1,.int .i64 a.2.2.1.2.1,.int .i64 a.2.2.1.2.2,.slice .ro 6 a.2.2.2.length (gl e_interregnumref24_Item a.2.2.2)])],[(19,3,x.1.length)]⟩
def f122.S1 (a : T_interregnumref24_Order) (x : (List (T_ar3_i64)) × Int × Int × Int × ByteArray × Int × Int × Int × Int × Int) : Tm := ⟨[.dead,.ptr 0 0,.dead,.slice (.own 19) 3 x.1.length (gl e_ar3_i64 x.1),.int .i64 x.2.1,.ptr 32 0,.int .i64 x.2.2.1,.dead,.dead,.dead,.dead,.dead,.dead,.dead,.dead,.dead,.dead,.dead,.dead,.dead,.dead,.int .i64 (a.2.2.2.length : Int),.int .i64 x.2.2.2.1,.dead,.dead,.dead,.dead,.dead,.dead,.dead,.dead,.dead,.dead,.dead,.dead,.dead,.dead,.dead,.dead,.dead,.dead,.dead,.dead,.dead,.dead,.dead,.dead,.dead,.dead,.dead,.dead,.dead,.dead,.dead,.dead,.dead,.dead,.dead,.dead,.dead,.dead,.dead,.dead,.dead,.dead,.dead,.dead,.dead,.dead,.dead,.dead,.dead,.dead,.dead,.dead,.dead,.dead,.dead,.dead,.dead,.dead,.dead,.dead,.dead,.dead,.dead,.dead,.dead,.dead,.dead,.dead,.dead,.dead],[(0,false,[.str a.1,.int .i64 a.2.1.1,.int .i64 a.2.1.2.1,.int .i64 a.2.1.2.2,.int .i64 a.2.2.1.1,.int .i64 a.2.2.1.2.1,.int .i64 a.2.2.1.2.2,.slice .ro 6 a.2.2.2.length (gl e_interregnumref24_Item a.2.2.2)]),(32,false,[.str x.2.2.2.2.1,.int .i64 x.2.2.2.2.2.1,.int .i64 x.2.2.2.2.2.2.1,.int .i64 x.2.2.2.2.2.2.2.1,.int .i64 x.2.2.2.2.2.2.2.2.1,.int .i64 x.2.2.2.2.2.2.2.2.2])],[(19,3,x.1.length)]⟩
def f122.kills (a : T_interregnumref24_Order) : List Hint := [.tell ((List (T_ar3_i64)) × Int) (f122.S0 a),
 .tell ((List (T_ar3_i64)) × Int × Int × Int × ByteArray × Int × Int × Int × Int × Int) (f122.S1 a)]
def f122.cuts (a : T_interregnumref24_Order) : List (Nat × Σ β : Type,β→Tm) := []
def f122.af (a : T_interregnumref24_Order) : AF := AF.mk (.seq (.region [oT 1 0 .box [0],
 ⟨(some 2),1,.move,[.c (.bool false)],none⟩])
 (.seq (.seq (.region [oT 9 2 (.fieldAddr 0) [1],
 oT 10 3 (.load false 1) [9],
 oT 11 4 (.call false 58) [10],
 oT 12 8 (.un .not) [11],
 oT 13 9 .move [12],
 oG 14 10 (.fieldAddr 4) [1] 13 false,
 oG 15 11 (.load true 3) [14] 13 false,
 oG 16 12 (.call false 55) [15] 13 false,
 oG 17 16 (.un .not) [16] 13 false,
 ⟨(some 18),17,.pick,[.t 13,.c (.bool true),.t 17],none⟩])
 (.cond (.t 18) (.seq (.region [⟨(some 2),18,.move,[.c (.bool false)],none⟩])
 (.ret)) (.skip)))
 (.seq (.region [oT 3 19 (.nilSl 3) []])
 (.seq (.seq (.region [oT 19 20 (.fieldAddr 7) [1],
 oT 20 21 (.load false 1) [19],
 oT 21 22 (.len false) [20],
 ⟨(some 22),23,.move,[.c (.int .i64 (0))],none⟩])
 (.block 0 (.loopT ((List (T_ar3_i64)) × Int) (f122.S0 a) 24 99 (.seq (.region [oT 23 24 (.bin .lss) [22,21]])
 (.seq (.cond (.t 23) (.skip) (.exit 0))
 (.seq (.block 1 (.seq (.region [oT 24 25 .move [22],
 oT 4 26 .move [24]])
 (.seq (.region [oT 25 27 (.fieldAddr 7) [1],
 oT 26 28 (.load false 1) [25],
 oT 27 29 .move [4],
 oT 28 30 (.indexAddr 6 none) [26,27],
 oT 29 31 (.load true 6) [28],
 oT 5 32 (.alloc [.str ByteArray.empty,.int .i64 (0),.int .i64 (0),.int .i64 (0),.int .i64 (0),.int .i64 (0)]) [],
 ⟨none,39,(.store 6),[.t 5,.t 29],none⟩])
 (.seq (.seq (.region [oT 30 40 (.fieldAddr 0) [5],
 oT 31 41 (.load false 1) [30],
 oT 32 42 (.call false 58) [31],
 oT 33 46 (.un .not) [32],
 oT 34 47 .move [33],
 oG 35 48 (.fieldAddr 1) [5] 34 false,
 oG 36 49 (.load false 1) [35] 34 false,
 ⟨(some 37),50,(.bin .lss),[.t 36,.c (.int .i64 (1))],(some (34,false))⟩,
 ⟨(some 38),51,.pick,[.t 34,.c (.bool true),.t 37],none⟩,
 oT 39 52 .move [38],
 oG 40 53 (.fieldAddr 2) [5] 39 false,
 oG 41 54 (.load false 1) [40] 39 false,
 ⟨(some 42),55,(.bin .lss),[.t 41,.c (.int .i64 (1))],(some (39,false))⟩,
 ⟨(some 43),56,.pick,[.t 39,.c (.bool true),.t 42],none⟩,
 oT 44 57 .move [43],
 oG 45 58 .move [4] 44 false,
 ⟨(some 46),59,(.bin .gtr),[.t 45,.c (.int .i64 (0))],(some (44,false))⟩,
 oG 47 60 .move [46] 44 false,
 oG 48 61 (.fieldAddr 7) [1] 47 true,
 oG 49 62 (.load false 1) [48] 47 true,
 oG 50 63 .move [4] 47 true,
 ⟨(some 51),64,(.bin .sub),[.t 50,.c (.int .i64 (1))],(some (47,true))⟩,
 oG 52 65 (.indexAddr 6 none) [49,51] 47 true,
 oG 53 66 (.fieldAddr 1) [52] 47 true,
 oG 54 67 (.load false 1) [53] 47 true,
 oG 55 68 (.fieldAddr 1) [5] 47 true,
 oG 56 69 (.load false 1) [55] 47 true,
 oG 57 70 (.bin .geq) [54,56] 47 true,
 ⟨(some 58),71,.pick,[.t 47,.t 57,.c (.bool false)],(some (44,false))⟩,
 ⟨(some 59),72,.pick,[.t 44,.c (.bool true),.t 58],none⟩])
 (.cond (.t 59) (.seq (.region [⟨(some 2),73,.move,[.c (.bool false)],none⟩])
 (.ret)) (.skip)))
 (.seq (.seq (.region [⟨(some 6),74,.move,[.c (.int .i64 (0))],none⟩])
 (.block 2 (.loopT ((List (T_ar3_i64)) × Int × Int × Int × ByteArray × Int × Int × Int × Int × Int) (f122.S1 a) 75 91 (.seq (.seq (.region [oT 60 75 .move [6],
 oT 61 76 .move [4],
 oT 62 77 (.bin .lss) [60,61]])
 (.cond (.t 62) (.skip) (.exit 2)))
 (.seq (.block 3 (.seq (.region [oT 65 78 (.fieldAddr 7) [1],
 oT 66 79 (.load false 1) [65],
 oT 67 80 .move [6],
 oT 68 81 (.indexAddr 6 none) [66,67],
 oT 69 82 (.fieldAddr 0) [68],
 oT 70 83 (.load false 1) [69],
 oT 71 84 (.fieldAddr 0) [5],
 oT 72 85 (.load false 1) [71],
 oT 73 86 (.bin .eql) [70,72]])
 (.cond (.t 73) (.seq (.region [⟨(some 2),87,.move,[.c (.bool false)],none⟩])
 (.ret)) (.skip))))
 (.region [oT 63 88 .move [6],
 ⟨(some 64),89,(.bin .add),[.t 63,.c (.int .i64 (1))],none⟩,
 oT 6 90 .move [64]]))))))
 (.region [oT 74 91 .move [3],
 oT 75 92 (.fieldAddr 3) [5],
 oT 76 93 (.load true 3) [75],
 oT 77 94 (.buildSlice 3 1 [.int .i64 (0),.int .i64 (0),.int .i64 (0)] [(0,3)]) [76],
 oT 78 95 (.append 3 24) [74,77],
 oT 3 96 .move [78]]))))))
 (.region [⟨(some 79),97,(.bin .add),[.t 22,.c (.int .i64 (1))],none⟩,
 oT 22 98 .move [79]])))))))
 (.seq (.region [oT 81 99 .move [3],
 oT 82 100 (.call false 53) [81],
 oT 80 104 .move [82],
 oT 83 105 (.extract 0) [80],
 oT 84 106 (.extract 1) [80],
 oT 7 107 (.alloc [.int .i64 (0),.int .i64 (0),.int .i64 (0)]) [],
 ⟨none,111,(.store 3),[.t 7,.t 83],none⟩,
 oT 8 112 .move [84]])
 (.seq (.region [oT 85 113 .move [8],
 ⟨(some 86),114,(.bin .eql),[.t 85,.c (.int .i64 (0))],none⟩,
 oT 87 115 .move [86],
 oG 88 116 (.load true 3) [7] 87 true,
 oG 89 117 (.fieldAddr 4) [1] 87 true,
 oG 90 118 (.load true 3) [89] 87 true,
 oG 91 119 (.call false 131) [88,90] 87 true,
 ⟨(some 92),123,.pick,[.t 87,.t 91,.c (.bool false)],none⟩,
 oT 2 124 .move [92]])
 (.ret)))))))
 [.tmp 2] 0 92
def f122.env : Env := [(58,f58.C),(55,f55.C),(53,f53.C),(131,f131.C)]
def f122.tree (a : T_interregnumref24_Order) : Prop := ∃ c1 : ByteArray,(a.1 = c1)∧(name_pre c1)∧Br (!(nameB c1)) ((false = (ordB a))∧True) (∃ c5 : T_ar3_i64,(a.2.2.1.1 = c5.1)∧(a.2.2.1.2.1 = c5.2.1)∧(a.2.2.1.2.2 = c5.2.2)∧True∧Br (!(rightB c5)) ((false = (ordB a))∧True) (∃ (I10 : ((List (T_ar3_i64)) × Int)→Prop) (μ11 : ((List (T_ar3_i64)) × Int)→Nat),(∃ x9 : (List (T_ar3_i64)) × Int,SlQ 0 x9.1.length gnil (gl e_ar3_i64 x9.1) (((a.2.2.2.length : Int) = (a.2.2.2.length : Int))∧((0 : Int) = x9.2)∧(a.1 = a.1)∧(a.2.1.1 = a.2.1.1)∧(a.2.1.2.1 = a.2.1.2.1)∧(a.2.1.2.2 = a.2.1.2.2)∧(a.2.2.1.1 = a.2.2.1.1)∧(a.2.2.1.2.1 = a.2.2.1.2.1)∧(a.2.2.1.2.2 = a.2.2.1.2.2)∧SlS e_interregnumref24_Item a.2.2.2 ((0 = x9.1.length)∧I10 x9)))∧∀ y12 : (List (T_ar3_i64)) × Int,I10 y12→(Br (decide (y12.2 < (a.2.2.2.length : Int))) (Br (decide ((0 : Int)≤y12.2) && decide (y12.2 < (a.2.2.2.length : Int))) (∃ c16 : ByteArray,(((at_ a.2.2.2 y12.2).1) = c16)∧(name_pre c16)∧Br (!(nameB c16)) ((false = (ordB a))∧True) (Br (decide (((at_ a.2.2.2 y12.2).2.1) < (1 : Int))) ((false = (ordB a))∧True) (Br (decide (((at_ a.2.2.2 y12.2).2.2.1) < (1 : Int))) ((false = (ordB a))∧True) (Br (decide ((0 : Int) < y12.2)) (Let (IntKind.i64.wrap (y12.2 - (1 : Int))) (fun v28 : Int => Br (decide ((0 : Int)≤v28) && decide (v28 < (a.2.2.2.length : Int))) (Br (decide (((at_ a.2.2.2 y12.2).2.1)≤((at_ a.2.2.2 v28).2.1))) ((false = (ordB a))∧True) (∃ (I34 : ((List (T_ar3_i64)) × Int × Int × Int × ByteArray × Int × Int × Int × Int × Int)→Prop) (μ35 : ((List (T_ar3_i64)) × Int × Int × Int × ByteArray × Int × Int × Int × Int × Int)→Nat),(∃ x33 : (List (T_ar3_i64)) × Int × Int × Int × ByteArray × Int × Int × Int × Int × Int,SlQ y12.1.length x33.1.length (gl e_ar3_i64 y12.1) (gl e_ar3_i64 x33.1) ((y12.2 = x33.2.1)∧((0 : Int) = x33.2.2.1)∧((a.2.2.2.length : Int) = (a.2.2.2.length : Int))∧(y12.2 = x33.2.2.2.1)∧(a.1 = a.1)∧(a.2.1.1 = a.2.1.1)∧(a.2.1.2.1 = a.2.1.2.1)∧(a.2.1.2.2 = a.2.1.2.2)∧(a.2.2.1.1 = a.2.2.1.1)∧(a.2.2.1.2.1 = a.2.2.1.2.1)∧(a.2.2.1.2.2 = a.2.2.1.2.2)∧SlS e_interregnumref24_Item a.2.2.2 ((((at_ a.2.2.2 y12.2).1) = x33.2.2.2.2.1)∧(((at_ a.2.2.2 y12.2).2.1) = x33.2.2.2.2.2.1)∧(((at_ a.2.2.2 y12.2).2.2.1) = x33.2.2.2.2.2.2.1)∧((((at_ a.2.2.2 y12.2).2.2.2).1) = x33.2.2.2.2.2.2.2.1)∧((((at_ a.2.2.2 y12.2).2.2.2).2.1) = x33.2.2.2.2.2.2.2.2.1)∧((((at_ a.2.2.2 y12.2).2.2.2).2.2) = x33.2.2.2.2.2.2.2.2.2)∧(y12.1.length = x33.1.length)∧I34 x33)))∧∀ y36 : (List (T_ar3_i64)) × Int × Int × Int × ByteArray × Int × Int × Int × Int × Int,I34 y36→(Br (decide (y36.2.2.1 < y36.2.1)) (Br (decide ((0 : Int)≤y36.2.2.1) && decide (y36.2.2.1 < (a.2.2.2.length : Int))) (Br (((at_ a.2.2.2 y36.2.2.1).1).toList == y36.2.2.2.2.1.toList) ((false = (ordB a))∧True) (Let (IntKind.i64.wrap (y36.2.2.1 + (1 : Int))) (fun v43 : Int => ∃ x44 : (List (T_ar3_i64)) × Int × Int × Int × ByteArray × Int × Int × Int × Int × Int,SlQ y36.1.length x44.1.length (gl e_ar3_i64 y36.1) (gl e_ar3_i64 x44.1) ((y36.2.1 = x44.2.1)∧(v43 = x44.2.2.1)∧((a.2.2.2.length : Int) = (a.2.2.2.length : Int))∧(y36.2.2.2.1 = x44.2.2.2.1)∧(a.1 = a.1)∧(a.2.1.1 = a.2.1.1)∧(a.2.1.2.1 = a.2.1.2.1)∧(a.2.1.2.2 = a.2.1.2.2)∧(a.2.2.1.1 = a.2.2.1.1)∧(a.2.2.1.2.1 = a.2.2.1.2.1)∧(a.2.2.1.2.2 = a.2.2.1.2.2)∧SlS e_interregnumref24_Item a.2.2.2 ((y36.2.2.2.2.1 = x44.2.2.2.2.1)∧(y36.2.2.2.2.2.1 = x44.2.2.2.2.2.1)∧(y36.2.2.2.2.2.2.1 = x44.2.2.2.2.2.2.1)∧(y36.2.2.2.2.2.2.2.1 = x44.2.2.2.2.2.2.2.1)∧(y36.2.2.2.2.2.2.2.2.1 = x44.2.2.2.2.2.2.2.2.1)∧(y36.2.2.2.2.2.2.2.2.2 = x44.2.2.2.2.2.2.2.2.2)∧(y36.1.length = x44.1.length)∧I34 x44∧μ35 x44 < μ35 y36))))) False) ((y36.1.length = y36.1.length∧room ((y36.1.length + 1) * 24))∧(Let (IntKind.i64.wrap (y36.2.2.2.1 + (1 : Int))) (fun v52 : Int => ∃ x53 : (List (T_ar3_i64)) × Int,SlQ (y36.1.length + 1) x53.1.length (gapp (gl e_ar3_i64 y36.1) y36.1.length (fun _ => [.int .i64 y36.2.2.2.2.2.2.2.1,.int .i64 y36.2.2.2.2.2.2.2.2.1,.int .i64 y36.2.2.2.2.2.2.2.2.2])) (gl e_ar3_i64 x53.1) (((a.2.2.2.length : Int) = (a.2.2.2.length : Int))∧(v52 = x53.2)∧(a.1 = a.1)∧(a.2.1.1 = a.2.1.1)∧(a.2.1.2.1 = a.2.1.2.1)∧(a.2.1.2.2 = a.2.1.2.2)∧(a.2.2.1.1 = a.2.2.1.1)∧(a.2.2.1.2.1 = a.2.2.1.2.1)∧(a.2.2.1.2.2 = a.2.2.1.2.2)∧SlS e_interregnumref24_Item a.2.2.2 (((y36.1.length + 1) = x53.1.length)∧I10 x53∧μ11 x53 < μ11 y12)))))))) False)) (∃ (I70 : ((List (T_ar3_i64)) × Int × Int × Int × ByteArray × Int × Int × Int × Int × Int)→Prop) (μ71 : ((List (T_ar3_i64)) × Int × Int × Int × ByteArray × Int × Int × Int × Int × Int)→Nat),(∃ x69 : (List (T_ar3_i64)) × Int × Int × Int × ByteArray × Int × Int × Int × Int × Int,SlQ y12.1.length x69.1.length (gl e_ar3_i64 y12.1) (gl e_ar3_i64 x69.1) ((y12.2 = x69.2.1)∧((0 : Int) = x69.2.2.1)∧((a.2.2.2.length : Int) = (a.2.2.2.length : Int))∧(y12.2 = x69.2.2.2.1)∧(a.1 = a.1)∧(a.2.1.1 = a.2.1.1)∧(a.2.1.2.1 = a.2.1.2.1)∧(a.2.1.2.2 = a.2.1.2.2)∧(a.2.2.1.1 = a.2.2.1.1)∧(a.2.2.1.2.1 = a.2.2.1.2.1)∧(a.2.2.1.2.2 = a.2.2.1.2.2)∧SlS e_interregnumref24_Item a.2.2.2 ((((at_ a.2.2.2 y12.2).1) = x69.2.2.2.2.1)∧(((at_ a.2.2.2 y12.2).2.1) = x69.2.2.2.2.2.1)∧(((at_ a.2.2.2 y12.2).2.2.1) = x69.2.2.2.2.2.2.1)∧((((at_ a.2.2.2 y12.2).2.2.2).1) = x69.2.2.2.2.2.2.2.1)∧((((at_ a.2.2.2 y12.2).2.2.2).2.1) = x69.2.2.2.2.2.2.2.2.1)∧((((at_ a.2.2.2 y12.2).2.2.2).2.2) = x69.2.2.2.2.2.2.2.2.2)∧(y12.1.length = x69.1.length)∧I70 x69)))∧∀ y72 : (List (T_ar3_i64)) × Int × Int × Int × ByteArray × Int × Int × Int × Int × Int,I70 y72→(Br (decide (y72.2.2.1 < y72.2.1)) (Br (decide ((0 : Int)≤y72.2.2.1) && decide (y72.2.2.1 < (a.2.2.2.length : Int))) (Br (((at_ a.2.2.2 y72.2.2.1).1).toList == y72.2.2.2.2.1.toList) ((false = (ordB a))∧True) (Let (IntKind.i64.wrap (y72.2.2.1 + (1 : Int))) (fun v79 : Int => ∃ x80 : (List (T_ar3_i64)) × Int × Int × Int × ByteArray × Int × Int × Int × Int × Int,SlQ y72.1.length x80.1.length (gl e_ar3_i64 y72.1) (gl e_ar3_i64 x80.1) ((y72.2.1 = x80.2.1)∧(v79 = x80.2.2.1)∧((a.2.2.2.length : Int) = (a.2.2.2.length : Int))∧(y72.2.2.2.1 = x80.2.2.2.1)∧(a.1 = a.1)∧(a.2.1.1 = a.2.1.1)∧(a.2.1.2.1 = a.2.1.2.1)∧(a.2.1.2.2 = a.2.1.2.2)∧(a.2.2.1.1 = a.2.2.1.1)∧(a.2.2.1.2.1 = a.2.2.1.2.1)∧(a.2.2.1.2.2 = a.2.2.1.2.2)∧SlS e_interregnumref24_Item a.2.2.2 ((y72.2.2.2.2.1 = x80.2.2.2.2.1)∧(y72.2.2.2.2.2.1 = x80.2.2.2.2.2.1)∧(y72.2.2.2.2.2.2.1 = x80.2.2.2.2.2.2.1)∧(y72.2.2.2.2.2.2.2.1 = x80.2.2.2.2.2.2.2.1)∧(y72.2.2.2.2.2.2.2.2.1 = x80.2.2.2.2.2.2.2.2.1)∧(y72.2.2.2.2.2.2.2.2.2 = x80.2.2.2.2.2.2.2.2.2)∧(y72.1.length = x80.1.length)∧I70 x80∧μ71 x80 < μ71 y72))))) False) ((y72.1.length = y72.1.length∧room ((y72.1.length + 1) * 24))∧(Let (IntKind.i64.wrap (y72.2.2.2.1 + (1 : Int))) (fun v88 : Int => ∃ x89 : (List (T_ar3_i64)) × Int,SlQ (y72.1.length + 1) x89.1.length (gapp (gl e_ar3_i64 y72.1) y72.1.length (fun _ => [.int .i64 y72.2.2.2.2.2.2.2.1,.int .i64 y72.2.2.2.2.2.2.2.2.1,.int .i64 y72.2.2.2.2.2.2.2.2.2])) (gl e_ar3_i64 x89.1) (((a.2.2.2.length : Int) = (a.2.2.2.length : Int))∧(v88 = x89.2)∧(a.1 = a.1)∧(a.2.1.1 = a.2.1.1)∧(a.2.1.2.1 = a.2.1.2.1)∧(a.2.1.2.2 = a.2.1.2.2)∧(a.2.2.1.1 = a.2.2.1.1)∧(a.2.2.1.2.1 = a.2.2.1.2.1)∧(a.2.2.1.2.2 = a.2.2.1.2.2)∧SlS e_interregnumref24_Item a.2.2.2 (((y72.1.length + 1) = x89.1.length)∧I10 x89∧μ11 x89 < μ11 y12))))))))))) False) (∃ c109 : List (T_ar3_i64),SlQ y12.1.length c109.length (gl e_ar3_i64 y12.1) (gl e_ar3_i64 c109) ((L20 c109)∧Br (((sumR c109).2) == (0 : Int)) (∃ c112 : T_ar3_i64 × T_ar3_i64,((((sumR c109).1).1) = c112.1.1)∧((((sumR c109).1).2.1) = c112.1.2.1)∧((((sumR c109).1).2.2) = c112.1.2.2)∧(a.2.2.1.1 = c112.2.1)∧(a.2.2.1.2.1 = c112.2.2.1)∧(a.2.2.1.2.2 = c112.2.2.2)∧True∧((fitsR c112) = (ordB a))∧True) ((false = (ordB a))∧True))))))
def f122.vc (a : T_interregnumref24_Order) : Prop := (name_pre a.1∧((¬ ((nameB (a.1)) = true)→(false = ordB a))∧(¬ (¬ ((nameB (a.1)) = true))→((¬ ((rightB (a.2.2.1)) = true)→(false = ordB a))∧(¬ (¬ ((rightB (a.2.2.1)) = true))→(∃ (I10 : ((List (T_ar3_i64)) × Int)→Prop) (μ11 : ((List (T_ar3_i64)) × Int)→Nat),I10 ([],(0 : Int))∧∀ y12 : (List (T_ar3_i64)) × Int,I10 y12→((y12.2 < (a.2.2.2.length : Int)→((0 : Int)≤y12.2∧y12.2 < (a.2.2.2.length : Int)∧(name_pre ((at_ a.2.2.2 y12.2).1)∧((¬ ((nameB ((at_ a.2.2.2 y12.2).1)) = true)→(false = ordB a))∧(¬ (¬ ((nameB ((at_ a.2.2.2 y12.2).1)) = true))→((((at_ a.2.2.2 y12.2).2.1) < (1 : Int)→(false = ordB a))∧(¬ (((at_ a.2.2.2 y12.2).2.1) < (1 : Int))→((((at_ a.2.2.2 y12.2).2.2.1) < (1 : Int)→(false = ordB a))∧(¬ (((at_ a.2.2.2 y12.2).2.2.1) < (1 : Int))→(((0 : Int) < y12.2→(-9223372036854775808≤(y12.2 - (1 : Int))∧(y12.2 - (1 : Int))≤9223372036854775807∧((0 : Int)≤(y12.2 - (1 : Int))∧(y12.2 - (1 : Int)) < (a.2.2.2.length : Int)∧((((at_ a.2.2.2 y12.2).2.1)≤((at_ a.2.2.2 (y12.2 - (1 : Int))).2.1)→(false = ordB a))∧(¬ (((at_ a.2.2.2 y12.2).2.1)≤((at_ a.2.2.2 (y12.2 - (1 : Int))).2.1))→(∃ (I34 : ((List (T_ar3_i64)) × Int × Int × Int × ByteArray × Int × Int × Int × Int × Int)→Prop) (μ35 : ((List (T_ar3_i64)) × Int × Int × Int × ByteArray × Int × Int × Int × Int × Int)→Nat),I34 (y12.1,y12.2,(0 : Int),y12.2,(at_ a.2.2.2 y12.2).1,(at_ a.2.2.2 y12.2).2.1,(at_ a.2.2.2 y12.2).2.2.1,((at_ a.2.2.2 y12.2).2.2.2).1,((at_ a.2.2.2 y12.2).2.2.2).2.1,((at_ a.2.2.2 y12.2).2.2.2).2.2)∧∀ y36 : (List (T_ar3_i64)) × Int × Int × Int × ByteArray × Int × Int × Int × Int × Int,I34 y36→((y36.2.2.1 < y36.2.1→((0 : Int)≤y36.2.2.1∧y36.2.2.1 < (a.2.2.2.length : Int)∧((((at_ a.2.2.2 y36.2.2.1).1) = y36.2.2.2.2.1→(false = ordB a))∧(¬ (((at_ a.2.2.2 y36.2.2.1).1) = y36.2.2.2.2.1)→(-9223372036854775808≤(y36.2.2.1 + (1 : Int))∧(y36.2.2.1 + (1 : Int))≤9223372036854775807∧(I34 (y36.1,y36.2.1,(y36.2.2.1 + (1 : Int)),y36.2.2.2.1,y36.2.2.2.2.1,y36.2.2.2.2.2.1,y36.2.2.2.2.2.2.1,y36.2.2.2.2.2.2.2.1,y36.2.2.2.2.2.2.2.2.1,y36.2.2.2.2.2.2.2.2.2)∧μ35 (y36.1,y36.2.1,(y36.2.2.1 + (1 : Int)),y36.2.2.2.1,y36.2.2.2.2.1,y36.2.2.2.2.2.1,y36.2.2.2.2.2.2.1,y36.2.2.2.2.2.2.2.1,y36.2.2.2.2.2.2.2.2.1,y36.2.2.2.2.2.2.2.2.2) < μ35 y36))))))∧(¬ (y36.2.2.1 < y36.2.1)→(y36.1.length + 1≤1073741824∧(-9223372036854775808≤(y36.2.2.2.1 + (1 : Int))∧(y36.2.2.2.1 + (1 : Int))≤9223372036854775807∧(I10 (y36.1 ++ ([y36.2.2.2.2.2.2.2]),(y36.2.2.2.1 + (1 : Int)))∧μ11 (y36.1 ++ ([y36.2.2.2.2.2.2.2]),(y36.2.2.2.1 + (1 : Int))) < μ11 y12)))))))))))∧(¬ ((0 : Int) < y12.2)→(∃ (I70 : ((List (T_ar3_i64)) × Int × Int × Int × ByteArray × Int × Int × Int × Int × Int)→Prop) (μ71 : ((List (T_ar3_i64)) × Int × Int × Int × ByteArray × Int × Int × Int × Int × Int)→Nat),I70 (y12.1,y12.2,(0 : Int),y12.2,(at_ a.2.2.2 y12.2).1,(at_ a.2.2.2 y12.2).2.1,(at_ a.2.2.2 y12.2).2.2.1,((at_ a.2.2.2 y12.2).2.2.2).1,((at_ a.2.2.2 y12.2).2.2.2).2.1,((at_ a.2.2.2 y12.2).2.2.2).2.2)∧∀ y72 : (List (T_ar3_i64)) × Int × Int × Int × ByteArray × Int × Int × Int × Int × Int,I70 y72→((y72.2.2.1 < y72.2.1→((0 : Int)≤y72.2.2.1∧y72.2.2.1 < (a.2.2.2.length : Int)∧((((at_ a.2.2.2 y72.2.2.1).1) = y72.2.2.2.2.1→(false = ordB a))∧(¬ (((at_ a.2.2.2 y72.2.2.1).1) = y72.2.2.2.2.1)→(-9223372036854775808≤(y72.2.2.1 + (1 : Int))∧(y72.2.2.1 + (1 : Int))≤9223372036854775807∧(I70 (y72.1,y72.2.1,(y72.2.2.1 + (1 : Int)),y72.2.2.2.1,y72.2.2.2.2.1,y72.2.2.2.2.2.1,y72.2.2.2.2.2.2.1,y72.2.2.2.2.2.2.2.1,y72.2.2.2.2.2.2.2.2.1,y72.2.2.2.2.2.2.2.2.2)∧μ71 (y72.1,y72.2.1,(y72.2.2.1 + (1 : Int)),y72.2.2.2.1,y72.2.2.2.2.1,y72.2.2.2.2.2.1,y72.2.2.2.2.2.2.1,y72.2.2.2.2.2.2.2.1,y72.2.2.2.2.2.2.2.2.1,y72.2.2.2.2.2.2.2.2.2) < μ71 y72))))))∧(¬ (y72.2.2.1 < y72.2.1)→(y72.1.length + 1≤1073741824∧(-9223372036854775808≤(y72.2.2.2.1 + (1 : Int))∧(y72.2.2.2.1 + (1 : Int))≤9223372036854775807∧(I10 (y72.1 ++ ([y72.2.2.2.2.2.2.2]),(y72.2.2.2.1 + (1 : Int)))∧μ11 (y72.1 ++ ([y72.2.2.2.2.2.2.2]),(y72.2.2.2.1 + (1 : Int))) < μ11 y12)))))))))))))))))∧(¬ (y12.2 < (a.2.2.2.length : Int))→(L20 y12.1∧((((sumR (y12.1)).2) = (0 : Int)→((fitsR (((sumR (y12.1)).1),a.2.2.1)) = ordB a))∧(¬ (((sumR (y12.1)).2) = (0 : Int))→(false = ordB a))))))))))))
set_option maxRecDepth 100000 in
set_option maxHeartbeats 2000000 in
theorem f122.of (a : T_interregnumref24_Order) (h : f122.vc a) : f122.tree a := ⟨a.1,⟨rfl,⟨h.1,br h.2 (Cnd.not Cnd.b) (fun h2 k127 => ⟨k127,trivial⟩) (fun h3 k128 => ⟨a.2.2.1,⟨rfl,⟨rfl,⟨rfl,⟨trivial,br k128 (Cnd.not Cnd.b) (fun h6 k124 => ⟨k124,trivial⟩) (fun h7 k125 => Exists.elim k125 (fun I10 h121_ => Exists.elim h121_ (fun μ11 h121 => ⟨I10,μ11,⟨([],(0 : Int)),slQ (Rds.nil (enc := e_ar3_i64)) (⟨rfl,⟨rfl,⟨rfl,⟨rfl,⟨rfl,⟨rfl,⟨rfl,⟨rfl,⟨rfl,SlS.mk  (⟨(numR gnil (Rds.nil (enc := e_ar3_i64))),h121.1⟩)⟩⟩⟩⟩⟩⟩⟩⟩⟩)⟩,fun y12 h123 => br (h121.2 y12 h123) Cnd.dec (fun h13 k119 => chk k119.2.2 Cnd.ix ⟨k119.1,k119.2.1⟩ (fun h15 k108 => ⟨(at_ a.2.2.2 y12.2).1,⟨rfl,⟨k108.1,br k108.2 (Cnd.not Cnd.b) (fun h17 k105 => ⟨k105,trivial⟩) (fun h18 k106 => br k106 Cnd.dec (fun h20 k103 => ⟨k103,trivial⟩) (fun h21 k104 => br k104 Cnd.dec (fun h23 k101 => ⟨k101,trivial⟩) (fun h24 k102 => br k102 Cnd.dec (fun h26 k99 => wrapK.i64 k99 (fun h66 h67 k68 => chk k68.2.2 Cnd.ix ⟨k68.1,k68.2.1⟩ (fun h29 k65 => br k65 Cnd.dec (fun h30 k63 => ⟨k63,trivial⟩) (fun h31 k64 => Exists.elim k64 (fun I34 h60_ => Exists.elim h60_ (fun μ35 h60 => ⟨I34,μ35,⟨(y12.1,y12.2,(0 : Int),y12.2,(at_ a.2.2.2 y12.2).1,(at_ a.2.2.2 y12.2).2.1,(at_ a.2.2.2 y12.2).2.2.1,((at_ a.2.2.2 y12.2).2.2.2).1,((at_ a.2.2.2 y12.2).2.2.2).2.1,((at_ a.2.2.2 y12.2).2.2.2).2.2),slQ (Rds.self (enc := e_ar3_i64)) (⟨rfl,⟨rfl,⟨rfl,⟨rfl,⟨rfl,⟨rfl,⟨rfl,⟨rfl,⟨rfl,⟨rfl,⟨rfl,SlS.mk  (⟨rfl,⟨rfl,⟨rfl,⟨rfl,⟨rfl,⟨rfl,⟨(numR (gl e_ar3_i64 y12.1) (Rds.self (enc := e_ar3_i64))),h60.1⟩⟩⟩⟩⟩⟩⟩)⟩⟩⟩⟩⟩⟩⟩⟩⟩⟩⟩)⟩,fun y36 h62 => br (h60.2 y36 h62) Cnd.dec (fun h37 k58 => chk k58.2.2 Cnd.ix ⟨k58.1,k58.2.1⟩ (fun h39 k51 => br k51 Cnd.seq (fun h40 k49 => ⟨k49,trivial⟩) (fun h41 k50 => wrapK.i64 k50 (fun h46 h47 k48 => ⟨(y36.1,y36.2.1,(y36.2.2.1 + (1 : Int)),y36.2.2.2.1,y36.2.2.2.2.1,y36.2.2.2.2.2.1,y36.2.2.2.2.2.2.1,y36.2.2.2.2.2.2.2.1,y36.2.2.2.2.2.2.2.2.1,y36.2.2.2.2.2.2.2.2.2),slQ (Rds.self (enc := e_ar3_i64)) (⟨rfl,⟨rfl,⟨rfl,⟨rfl,⟨rfl,⟨rfl,⟨rfl,⟨rfl,⟨rfl,⟨rfl,⟨rfl,SlS.mk  (⟨rfl,⟨rfl,⟨rfl,⟨rfl,⟨rfl,⟨rfl,⟨(numR (gl e_ar3_i64 y36.1) (Rds.self (enc := e_ar3_i64))),k48⟩⟩⟩⟩⟩⟩⟩)⟩⟩⟩⟩⟩⟩⟩⟩⟩⟩⟩)⟩)))) (fun h38 k59 => ⟨⟨rfl,(room_of k59.1 (by decide))⟩,wrapK.i64 k59.2 (fun h55 h56 k57 => ⟨(y36.1 ++ ([y36.2.2.2.2.2.2.2]),(y36.2.2.2.1 + (1 : Int))),slQ (Rds.app (enc := e_ar3_i64) (Rds.self (enc := e_ar3_i64)) (Rds.one (enc := e_ar3_i64) (DEqs.refl _))) (⟨rfl,⟨rfl,⟨rfl,⟨rfl,⟨rfl,⟨rfl,⟨rfl,⟨rfl,⟨rfl,SlS.mk  (⟨(numR (gapp (gl e_ar3_i64 y36.1) y36.1.length (fun _ => [.int .i64 y36.2.2.2.2.2.2.2.1,.int .i64 y36.2.2.2.2.2.2.2.2.1,.int .i64 y36.2.2.2.2.2.2.2.2.2])) (Rds.app (enc := e_ar3_i64) (Rds.self (enc := e_ar3_i64)) (Rds.one (enc := e_ar3_i64) (DEqs.refl _)))),k57⟩)⟩⟩⟩⟩⟩⟩⟩⟩⟩)⟩)⟩)⟩)))))) (fun h27 k100 => Exists.elim k100 (fun I70 h96_ => Exists.elim h96_ (fun μ71 h96 => ⟨I70,μ71,⟨(y12.1,y12.2,(0 : Int),y12.2,(at_ a.2.2.2 y12.2).1,(at_ a.2.2.2 y12.2).2.1,(at_ a.2.2.2 y12.2).2.2.1,((at_ a.2.2.2 y12.2).2.2.2).1,((at_ a.2.2.2 y12.2).2.2.2).2.1,((at_ a.2.2.2 y12.2).2.2.2).2.2),slQ (Rds.self (enc := e_ar3_i64)) (⟨rfl,⟨rfl,⟨rfl,⟨rfl,⟨rfl,⟨rfl,⟨rfl,⟨rfl,⟨rfl,⟨rfl,⟨rfl,SlS.mk  (⟨rfl,⟨rfl,⟨rfl,⟨rfl,⟨rfl,⟨rfl,⟨(numR (gl e_ar3_i64 y12.1) (Rds.self (enc := e_ar3_i64))),h96.1⟩⟩⟩⟩⟩⟩⟩)⟩⟩⟩⟩⟩⟩⟩⟩⟩⟩⟩)⟩,fun y72 h98 => br (h96.2 y72 h98) Cnd.dec (fun h73 k94 => chk k94.2.2 Cnd.ix ⟨k94.1,k94.2.1⟩ (fun h75 k87 => br k87 Cnd.seq (fun h76 k85 => ⟨k85,trivial⟩) (fun h77 k86 => wrapK.i64 k86 (fun h82 h83 k84 => ⟨(y72.1,y72.2.1,(y72.2.2.1 + (1 : Int)),y72.2.2.2.1,y72.2.2.2.2.1,y72.2.2.2.2.2.1,y72.2.2.2.2.2.2.1,y72.2.2.2.2.2.2.2.1,y72.2.2.2.2.2.2.2.2.1,y72.2.2.2.2.2.2.2.2.2),slQ (Rds.self (enc := e_ar3_i64)) (⟨rfl,⟨rfl,⟨rfl,⟨rfl,⟨rfl,⟨rfl,⟨rfl,⟨rfl,⟨rfl,⟨rfl,⟨rfl,SlS.mk  (⟨rfl,⟨rfl,⟨rfl,⟨rfl,⟨rfl,⟨rfl,⟨(numR (gl e_ar3_i64 y72.1) (Rds.self (enc := e_ar3_i64))),k84⟩⟩⟩⟩⟩⟩⟩)⟩⟩⟩⟩⟩⟩⟩⟩⟩⟩⟩)⟩)))) (fun h74 k95 => ⟨⟨rfl,(room_of k95.1 (by decide))⟩,wrapK.i64 k95.2 (fun h91 h92 k93 => ⟨(y72.1 ++ ([y72.2.2.2.2.2.2.2]),(y72.2.2.2.1 + (1 : Int))),slQ (Rds.app (enc := e_ar3_i64) (Rds.self (enc := e_ar3_i64)) (Rds.one (enc := e_ar3_i64) (DEqs.refl _))) (⟨rfl,⟨rfl,⟨rfl,⟨rfl,⟨rfl,⟨rfl,⟨rfl,⟨rfl,⟨rfl,SlS.mk  (⟨(numR (gapp (gl e_ar3_i64 y72.1) y72.1.length (fun _ => [.int .i64 y72.2.2.2.2.2.2.2.1,.int .i64 y72.2.2.2.2.2.2.2.2.1,.int .i64 y72.2.2.2.2.2.2.2.2.2])) (Rds.app (enc := e_ar3_i64) (Rds.self (enc := e_ar3_i64)) (Rds.one (enc := e_ar3_i64) (DEqs.refl _)))),k93⟩)⟩⟩⟩⟩⟩⟩⟩⟩⟩)⟩)⟩)⟩))))))⟩⟩⟩)) (fun h14 k120 => ⟨y12.1,slQ (Rds.self (enc := e_ar3_i64)) (⟨k120.1,br k120.2 Cnd.eq (fun h110 k116 => ⟨(((sumR (y12.1)).1),a.2.2.1),⟨rfl,⟨rfl,⟨rfl,⟨rfl,⟨rfl,⟨rfl,⟨trivial,⟨k116,trivial⟩⟩⟩⟩⟩⟩⟩⟩⟩) (fun h111 k117 => ⟨k117,trivial⟩)⟩)⟩)⟩)))⟩⟩⟩⟩⟩)⟩⟩⟩
theorem f122.eq (a : T_interregnumref24_Order) : (f122.af a).gives f122.env (f122.args a) (f122.blks a) (f122.res a) (f122.blks' a) = f122.tree a := by kernel_rfl
end Go.Abs

-- interregnum/agent.New
namespace Go.Abs
open Go
def f101.args (a : ByteArray) : List D := [.str a]
def f101.blks (a : ByteArray) : List (List D) := []
def f101.res (a : ByteArray) : List D := [.newp [.str ((newA a).1),.int .i64 (((newA a).2.1).1),.int .i64 (((newA a).2.1).2.1),.int .i64 (((newA a).2.1).2.2),.slice .ro 6 (((newA a).2.2).length) (gl e_agent_Item ((newA a).2.2))]]
def f101.blks' (a : ByteArray) : List (List D) := []
def f101.C : Contract := FnC f101.args f101.blks (fun _ => True) f101.res f101.blks'
end Go.Abs

/- interregnum/agent.New -/
namespace Go.Abs
open Go
set_option linter.unusedVariables false
def f101.kills (a : ByteArray) : List Hint := []
def f101.cuts (a : ByteArray) : List (Nat × Σ β : Type,β→Tm) := []
def f101.af (a : ByteArray) : AF := AF.mk (.seq (.region [⟨(some 2),0,.move,[.c (.nilp)],none⟩])
 (.seq (.region [oT 3 1 .move [0],
 oT 4 2 (.build [.str ByteArray.empty,.int .i64 (0),.int .i64 (0),.int .i64 (0),.slice .full 6 0 gnil] [(0,1)]) [3],
 oT 5 3 .box [4],
 oT 2 4 .move [5]])
 (.ret)))
 [.tmp 2] 0 5
def f101.env : Env := []
def f101.tree (a : ByteArray) : Prop := (DEqs [.str a,.int .i64 (0 : Int),.int .i64 (0 : Int),.int .i64 (0 : Int),.slice .ro 6 0 gnil] [.str ((newA a).1),.int .i64 (((newA a).2.1).1),.int .i64 (((newA a).2.1).2.1),.int .i64 (((newA a).2.1).2.2),.slice .ro 6 (((newA a).2.2).length) (gl e_agent_Item ((newA a).2.2))])∧True
def f101.vc (a : ByteArray) : Prop := ((a,((0 : Int),(0 : Int),(0 : Int)),[]) = newA a)
set_option maxRecDepth 100000 in
set_option maxHeartbeats 2000000 in
theorem f101.of (a : ByteArray) (h : f101.vc a) : f101.tree a := ⟨(Eq.mp (congrArg (fun x : T_agent_Agent => DEqs [.str a,.int .i64 (0 : Int),.int .i64 (0 : Int),.int .i64 (0 : Int),.slice .ro 6 0 gnil] [.str x.1,.int .i64 x.2.1.1,.int .i64 x.2.1.2.1,.int .i64 x.2.1.2.2,.slice .ro 6 x.2.2.length (gl e_agent_Item x.2.2)]) h) (DEqs.cons (DEq.refl _) (DEqs.cons (DEq.refl _) (DEqs.cons (DEq.refl _) (DEqs.cons (DEq.refl _) (DEqs.cons ((Rds.nil (enc := e_agent_Item))).deq DEqs.nil)))))),trivial⟩
theorem f101.eq (a : ByteArray) : (f101.af a).gives f101.env (f101.args a) (f101.blks a) (f101.res a) (f101.blks' a) = f101.tree a := by kernel_rfl
end Go.Abs

-- slices.Clone[[]interregnum/agent.Item,interregnum/agent.Item]
namespace Go.Abs
open Go
def f121.args (a : List (T_agent_Item)) : List D := [.slice .ro 6 a.length (gl e_agent_Item a)]
def f121.blks (a : List (T_agent_Item)) : List (List D) := []
def f121.res (a : List (T_agent_Item)) : List D := [.slice .ro 6 ((cloneI a).length) (gl e_agent_Item (cloneI a))]
def f121.blks' (a : List (T_agent_Item)) : List (List D) := []
def f121.C : Contract := FnC f121.args f121.blks (fun a => L20 a) f121.res f121.blks'
end Go.Abs

/- slices.Clone[[]interregnum/agent.Item,interregnum/agent.Item] -/
namespace Go.Abs
open Go
set_option linter.unusedVariables false
def f121.kills (a : List (T_agent_Item)) : List Hint := []
def f121.cuts (a : List (T_agent_Item)) : List (Nat × Σ β : Type,β→Tm) := []
def f121.af (a : List (T_agent_Item)) : AF := AF.mk (.seq (.region [oT 2 0 (.nilSl 6) []])
 (.seq (.seq (.region [oT 3 1 .move [0],
 oT 4 2 (.isNil false false) [3]])
 (.cond (.t 4) (.seq (.region [oT 2 3 (.nilSl 6) []])
 (.ret)) (.skip)))
 (.seq (.region [oT 5 4 (.buildSlice 6 0 [.str ByteArray.empty,.int .i64 (0),.int .i64 (0),.int .i64 (0),.int .i64 (0),.int .i64 (0)] []) [],
 oT 6 5 .move [0],
 oT 7 6 (.append 6 56) [5,6],
 oT 2 7 .move [7]])
 (.ret))))
 [.tmp 2] 0 7
def f121.env : Env := []
def f121.tree (a : List (T_agent_Item)) : Prop := Br (Nat.beq a.length 0) (((0 = 0)∧SlQ 0 ((cloneI a).length) gnil (gl e_agent_Item (cloneI a)) (True))∧((room ((0 + a.length) * 56))∧(((0 + a.length) = (0 + a.length))∧SlQ (0 + a.length) ((cloneI a).length) (gapp (fun j => List.take 6 (List.drop (j * 6) [])) 0 (gl e_agent_Item a)) (gl e_agent_Item (cloneI a)) (True)))) ((room ((0 + a.length) * 56))∧(((0 + a.length) = (0 + a.length))∧SlQ (0 + a.length) ((cloneI a).length) (gapp (fun j => List.take 6 (List.drop (j * 6) [])) 0 (gl e_agent_Item a)) (gl e_agent_Item (cloneI a)) (True)))
def f121.vc (a : List (T_agent_Item)) : Prop := ((a.length = 0→(([] = cloneI a)∧(0 + a.length≤1073741824∧(([]) ++ a = cloneI a))))∧(¬ (a.length = 0)→(0 + a.length≤1073741824∧(([]) ++ a = cloneI a))))
set_option maxRecDepth 100000 in
set_option maxHeartbeats 2000000 in
theorem f121.of (a : List (T_agent_Item)) (h : f121.vc a) : f121.tree a := br h Cnd.beq (fun h1 k6 => ⟨⟨rfl,slQ (Rds.to (Rds.nil (enc := e_agent_Item)) k6.1) (trivial)⟩,⟨(room_of k6.2.1 (by decide)),⟨rfl,slQ (Rds.to (Rds.app (enc := e_agent_Item) (Rds.nil (enc := e_agent_Item)) (Rds.self (enc := e_agent_Item))) k6.2.2) (trivial)⟩⟩⟩) (fun h2 k7 => ⟨(room_of k7.1 (by decide)),⟨rfl,slQ (Rds.to (Rds.app (enc := e_agent_Item) (Rds.nil (enc := e_agent_Item)) (Rds.self (enc := e_agent_Item))) k7.2) (trivial)⟩⟩)
theorem f121.eq (a : List (T_agent_Item)) : (f121.af a).gives f121.env (f121.args a) (f121.blks a) (f121.res a) (f121.blks' a) = f121.tree a := by kernel_rfl
end Go.Abs

-- (*interregnum/agent.Agent).Take
namespace Go.Abs
open Go
def f102.args (a : T_agent_Agent × T_agent_Order) : List D := [.ptr 0 0,.agg [.str a.2.1,.int .i64 a.2.2.1.1,.int .i64 a.2.2.1.2.1,.int .i64 a.2.2.1.2.2,.int .i64 a.2.2.2.1.1,.int .i64 a.2.2.2.1.2.1,.int .i64 a.2.2.2.1.2.2,.slice .ro 6 a.2.2.2.2.length (gl e_agent_Item a.2.2.2.2)]]
def f102.blks (a : T_agent_Agent × T_agent_Order) : List (List D) := [[.str a.1.1,.int .i64 a.1.2.1.1,.int .i64 a.1.2.1.2.1,.int .i64 a.1.2.1.2.2,.slice .ro 6 a.1.2.2.length (gl e_agent_Item a.1.2.2)]]
def f102.res (a : T_agent_Agent × T_agent_Order) : List D := [.agg [.str (((takeA a).1).1),.int .i64 ((((takeA a).1).2).1),.int .i64 ((((takeA a).1).2).2.1),.int .i64 ((((takeA a).1).2).2.2)],.int .i64 ((takeA a).2.1)]
def f102.blks' (a : T_agent_Agent × T_agent_Order) : List (List D) := [[.str (((takeA a).2.2).1),.int .i64 ((((takeA a).2.2).2.1).1),.int .i64 ((((takeA a).2.2).2.1).2.1),.int .i64 ((((takeA a).2.2).2.1).2.2),.slice .ro 6 ((((takeA a).2.2).2.2).length) (gl e_agent_Item (((takeA a).2.2).2.2))]]
def f102.C : Contract := FnC f102.args f102.blks (fun a => takeA_pre a) f102.res f102.blks'
end Go.Abs

-- (*interregnum/agent.Agent).Report
namespace Go.Abs
open Go
def f107.args (a : T_agent_Agent) : List D := [.ptr 0 0]
def f107.blks (a : T_agent_Agent) : List (List D) := [[.str a.1,.int .i64 a.2.1.1,.int .i64 a.2.1.2.1,.int .i64 a.2.1.2.2,.slice .ro 6 a.2.2.length (gl e_agent_Item a.2.2)]]
def f107.res (a : T_agent_Agent) : List D := [.agg [.str (((reportA a).1).1),.int .i64 ((((reportA a).1).2).1),.int .i64 ((((reportA a).1).2).2.1),.int .i64 ((((reportA a).1).2).2.2)]]
def f107.blks' (a : T_agent_Agent) : List (List D) := [[.str (((reportA a).2).1),.int .i64 ((((reportA a).2).2.1).1),.int .i64 ((((reportA a).2).2.1).2.1),.int .i64 ((((reportA a).2).2.1).2.2),.slice .ro 6 ((((reportA a).2).2.2).length) (gl e_agent_Item (((reportA a).2).2.2))]]
def f107.C : Contract := FnC f107.args f107.blks (fun _ => True) f107.res f107.blks'
end Go.Abs

/- (*interregnum/agent.Agent).Take -/
namespace Go.Abs
open Go
set_option linter.unusedVariables false
def f102.kills (a : T_agent_Agent × T_agent_Order) : List Hint := []
def f102.cuts (a : T_agent_Agent × T_agent_Order) : List (Nat × Σ β : Type,β→Tm) := []
def f102.af (a : T_agent_Agent × T_agent_Order) : AF := AF.mk (.seq (.region [oT 3 1 .box [1],
 oT 4 2 (.alloc [.str ByteArray.empty,.int .i64 (0),.int .i64 (0),.int .i64 (0)]) [],
 ⟨(some 5),7,.move,[.c (.int .i64 (0))],none⟩])
 (.seq (.block 0 (.seq (.region [oT 7 8 .move [0],
 oT 8 9 (.isNil true false) [7],
 oT 9 10 .move [8],
 oG 10 11 (.load true 8) [3] 9 false,
 oG 11 12 (.call false 108) [10] 9 false,
 oG 12 16 (.un .not) [11] 9 false,
 ⟨(some 13),17,.pick,[.t 9,.c (.bool true),.t 12],none⟩,
 oT 14 18 .move [13],
 oG 15 19 (.fieldAddr 0) [3] 14 false,
 oG 16 20 (.load false 1) [15] 14 false,
 oG 17 21 .move [0] 14 false,
 oG 18 22 .nilCheck [17] 14 false,
 oG 19 23 (.fieldAddr 0) [18] 14 false,
 oG 20 24 (.load false 1) [19] 14 false,
 oG 21 25 (.bin .neq) [16,20] 14 false,
 ⟨(some 22),26,.pick,[.t 14,.c (.bool true),.t 21],none⟩,
 oT 6 27 .move [22]])
 (.cond (.t 6) (.seq (.region [oT 23 28 (.build [.str ByteArray.empty,.int .i64 (0),.int .i64 (0),.int .i64 (0)] []) [],
 ⟨none,29,(.store 4),[.t 4,.t 23],none⟩,
 ⟨(some 5),30,.move,[.c (.int .i64 (1))],none⟩])
 (.ret)) (.seq (.region [oT 25 31 (.fieldAddr 1) [3],
 oT 26 32 (.load true 3) [25],
 oT 27 33 .move [0],
 oT 28 34 .nilCheck [27],
 oT 29 35 (.fieldAddr 1) [28],
 oT 30 36 (.load true 3) [29],
 oT 31 37 (.call false 99) [26,30],
 ⟨(some 32),41,(.bin .lss),[.t 31,.c (.int .i64 (0))],none⟩,
 oT 24 42 .move [32]])
 (.cond (.t 24) (.seq (.region [oT 33 43 .move [0],
 oT 34 44 (.call true 107) [33],
 ⟨none,48,(.store 4),[.t 4,.t 34],none⟩,
 ⟨(some 5),49,.move,[.c (.int .i64 (12))],none⟩])
 (.ret)) (.skip))))))
 (.seq (.region [oT 35 50 .move [0],
 oT 36 51 (.fieldAddr 1) [3],
 oT 37 52 (.load true 3) [36],
 oT 38 53 .nilCheck [35],
 oT 39 54 (.fieldAddr 1) [38],
 ⟨none,55,(.store 3),[.t 39,.t 37],none⟩])
 (.seq (.region [oT 40 56 .move [0],
 oT 41 57 (.fieldAddr 7) [3],
 oT 42 58 (.load false 1) [41],
 oT 43 59 (.call false 121) [42],
 oT 44 63 .nilCheck [40],
 oT 45 64 (.fieldAddr 4) [44],
 ⟨none,65,(.store 1),[.t 45,.t 43],none⟩])
 (.seq (.region [oT 46 66 .move [0],
 oT 47 67 (.call true 107) [46],
 ⟨none,71,(.store 4),[.t 4,.t 47],none⟩,
 ⟨(some 5),72,.move,[.c (.int .i64 (0))],none⟩])
 (.ret))))))
 [.cell 4 true 4,.tmp 5] 1 46
def f102.env : Env := [(108,f108.C),(99,f99.C),(107,f107.C),(121,f121.C)]
def f102.tree (a : T_agent_Agent × T_agent_Order) : Prop := ∃ c1 : T_agent_Order,(a.2.1 = c1.1)∧(a.2.2.1.1 = c1.2.1.1)∧(a.2.2.1.2.1 = c1.2.1.2.1)∧(a.2.2.1.2.2 = c1.2.1.2.2)∧(a.2.2.2.1.1 = c1.2.2.1.1)∧(a.2.2.2.1.2.1 = c1.2.2.1.2.1)∧(a.2.2.2.1.2.2 = c1.2.2.1.2.2)∧SlQ a.2.2.2.2.length c1.2.2.2.length (gl e_agent_Item a.2.2.2.2) (gl e_agent_Item c1.2.2.2) ((ord_pre c1)∧Br (!(ordB c1)) ((ByteArray.empty = (((takeA a).1).1))∧((0 : Int) = ((((takeA a).1).2).1))∧((0 : Int) = ((((takeA a).1).2).2.1))∧((0 : Int) = ((((takeA a).1).2).2.2))∧((1 : Int) = ((takeA a).2.1))∧(a.1.1 = (((takeA a).2.2).1))∧(a.1.2.1.1 = ((((takeA a).2.2).2.1).1))∧(a.1.2.1.2.1 = ((((takeA a).2.2).2.1).2.1))∧(a.1.2.1.2.2 = ((((takeA a).2.2).2.1).2.2))∧SlQ a.1.2.2.length ((((takeA a).2.2).2.2).length) (gl e_agent_Item a.1.2.2) (gl e_agent_Item (((takeA a).2.2).2.2)) (True)) (Br (!(a.2.1.toList == a.1.1.toList)) ((ByteArray.empty = (((takeA a).1).1))∧((0 : Int) = ((((takeA a).1).2).1))∧((0 : Int) = ((((takeA a).1).2).2.1))∧((0 : Int) = ((((takeA a).1).2).2.2))∧((1 : Int) = ((takeA a).2.1))∧(a.1.1 = (((takeA a).2.2).1))∧(a.1.2.1.1 = ((((takeA a).2.2).2.1).1))∧(a.1.2.1.2.1 = ((((takeA a).2.2).2.1).2.1))∧(a.1.2.1.2.2 = ((((takeA a).2.2).2.1).2.2))∧SlQ a.1.2.2.length ((((takeA a).2.2).2.2).length) (gl e_agent_Item a.1.2.2) (gl e_agent_Item (((takeA a).2.2).2.2)) (True)) (∃ c8 : T_ar3_i64 × T_ar3_i64,(a.2.2.1.1 = c8.1.1)∧(a.2.2.1.2.1 = c8.1.2.1)∧(a.2.2.1.2.2 = c8.1.2.2)∧(a.1.2.1.1 = c8.2.1)∧(a.1.2.1.2.1 = c8.2.2.1)∧(a.1.2.1.2.2 = c8.2.2.2)∧True∧Br (decide ((cmpS c8) < (0 : Int))) (∃ c11 : T_agent_Agent,(a.1.1 = c11.1)∧(a.1.2.1.1 = c11.2.1.1)∧(a.1.2.1.2.1 = c11.2.1.2.1)∧(a.1.2.1.2.2 = c11.2.1.2.2)∧SlQ a.1.2.2.length c11.2.2.length (gl e_agent_Item a.1.2.2) (gl e_agent_Item c11.2.2) (True∧((((reportA c11).1).1) = (((takeA a).1).1))∧(((((reportA c11).1).2).1) = ((((takeA a).1).2).1))∧(((((reportA c11).1).2).2.1) = ((((takeA a).1).2).2.1))∧(((((reportA c11).1).2).2.2) = ((((takeA a).1).2).2.2))∧((12 : Int) = ((takeA a).2.1))∧((((reportA c11).2).1) = (((takeA a).2.2).1))∧(((((reportA c11).2).2.1).1) = ((((takeA a).2.2).2.1).1))∧(((((reportA c11).2).2.1).2.1) = ((((takeA a).2.2).2.1).2.1))∧(((((reportA c11).2).2.1).2.2) = ((((takeA a).2.2).2.1).2.2))∧SlQ ((((reportA c11).2).2.2).length) ((((takeA a).2.2).2.2).length) (gl e_agent_Item (((reportA c11).2).2.2)) (gl e_agent_Item (((takeA a).2.2).2.2)) (True))) (∃ c14 : List (T_agent_Item),SlQ a.2.2.2.2.length c14.length (gl e_agent_Item a.2.2.2.2) (gl e_agent_Item c14) ((L20 c14)∧∃ c15 : T_agent_Agent,(a.1.1 = c15.1)∧(a.2.2.1.1 = c15.2.1.1)∧(a.2.2.1.2.1 = c15.2.1.2.1)∧(a.2.2.1.2.2 = c15.2.1.2.2)∧SlQ ((cloneI c14).length) c15.2.2.length (gl e_agent_Item (cloneI c14)) (gl e_agent_Item c15.2.2) (True∧((((reportA c15).1).1) = (((takeA a).1).1))∧(((((reportA c15).1).2).1) = ((((takeA a).1).2).1))∧(((((reportA c15).1).2).2.1) = ((((takeA a).1).2).2.1))∧(((((reportA c15).1).2).2.2) = ((((takeA a).1).2).2.2))∧((0 : Int) = ((takeA a).2.1))∧((((reportA c15).2).1) = (((takeA a).2.2).1))∧(((((reportA c15).2).2.1).1) = ((((takeA a).2.2).2.1).1))∧(((((reportA c15).2).2.1).2.1) = ((((takeA a).2.2).2.1).2.1))∧(((((reportA c15).2).2.1).2.2) = ((((takeA a).2.2).2.1).2.2))∧SlQ ((((reportA c15).2).2.2).length) ((((takeA a).2.2).2.2).length) (gl e_agent_Item (((reportA c15).2).2.2)) (gl e_agent_Item (((takeA a).2.2).2.2)) (True)))))))
def f102.vc (a : T_agent_Agent × T_agent_Order) : Prop := (ord_pre a.2∧((¬ ((ordB (a.2)) = true)→(((ByteArray.empty,((0 : Int),(0 : Int),(0 : Int))),(1 : Int),a.1) = takeA a))∧(¬ (¬ ((ordB (a.2)) = true))→((¬ (a.2.1 = a.1.1)→(((ByteArray.empty,((0 : Int),(0 : Int),(0 : Int))),(1 : Int),a.1) = takeA a))∧(¬ (¬ (a.2.1 = a.1.1))→(((cmpS (a.2.2.1,a.1.2.1)) < (0 : Int)→((((reportA (a.1)).1),(12 : Int),((reportA (a.1)).2)) = takeA a))∧(¬ ((cmpS (a.2.2.1,a.1.2.1)) < (0 : Int))→(L20 a.2.2.2.2∧((((reportA (a.1.1,a.2.2.1,(cloneI (a.2.2.2.2)))).1),(0 : Int),((reportA (a.1.1,a.2.2.1,(cloneI (a.2.2.2.2)))).2)) = takeA a)))))))))
set_option maxRecDepth 100000 in
set_option maxHeartbeats 2000000 in
theorem f102.of (a : T_agent_Agent × T_agent_Order) (h : f102.vc a) : f102.tree a := ⟨a.2,⟨rfl,⟨rfl,⟨rfl,⟨rfl,⟨rfl,⟨rfl,⟨rfl,slQ (Rds.self (enc := e_agent_Item)) (⟨h.1,br h.2 (Cnd.not Cnd.b) (fun h2 k24 => ⟨(congrArg (fun x : T_agent_Report × Int × T_agent_Agent => x.1.1) k24 :),⟨(congrArg (fun x : T_agent_Report × Int × T_agent_Agent => x.1.2.1) k24 :),⟨(congrArg (fun x : T_agent_Report × Int × T_agent_Agent => x.1.2.2.1) k24 :),⟨(congrArg (fun x : T_agent_Report × Int × T_agent_Agent => x.1.2.2.2) k24 :),⟨(congrArg (fun x : T_agent_Report × Int × T_agent_Agent => x.2.1) k24 :),⟨(congrArg (fun x : T_agent_Report × Int × T_agent_Agent => x.2.2.1) k24 :),⟨(congrArg (fun x : T_agent_Report × Int × T_agent_Agent => x.2.2.2.1.1) k24 :),⟨(congrArg (fun x : T_agent_Report × Int × T_agent_Agent => x.2.2.2.1.2.1) k24 :),⟨(congrArg (fun x : T_agent_Report × Int × T_agent_Agent => x.2.2.2.1.2.2) k24 :),slQ (Rds.to (Rds.self (enc := e_agent_Item)) (congrArg (fun x : T_agent_Report × Int × T_agent_Agent => x.2.2.2.2) k24 :)) (trivial)⟩⟩⟩⟩⟩⟩⟩⟩⟩) (fun h3 k25 => br k25 (Cnd.not Cnd.seq) (fun h5 k22 => ⟨(congrArg (fun x : T_agent_Report × Int × T_agent_Agent => x.1.1) k22 :),⟨(congrArg (fun x : T_agent_Report × Int × T_agent_Agent => x.1.2.1) k22 :),⟨(congrArg (fun x : T_agent_Report × Int × T_agent_Agent => x.1.2.2.1) k22 :),⟨(congrArg (fun x : T_agent_Report × Int × T_agent_Agent => x.1.2.2.2) k22 :),⟨(congrArg (fun x : T_agent_Report × Int × T_agent_Agent => x.2.1) k22 :),⟨(congrArg (fun x : T_agent_Report × Int × T_agent_Agent => x.2.2.1) k22 :),⟨(congrArg (fun x : T_agent_Report × Int × T_agent_Agent => x.2.2.2.1.1) k22 :),⟨(congrArg (fun x : T_agent_Report × Int × T_agent_Agent => x.2.2.2.1.2.1) k22 :),⟨(congrArg (fun x : T_agent_Report × Int × T_agent_Agent => x.2.2.2.1.2.2) k22 :),slQ (Rds.to (Rds.self (enc := e_agent_Item)) (congrArg (fun x : T_agent_Report × Int × T_agent_Agent => x.2.2.2.2) k22 :)) (trivial)⟩⟩⟩⟩⟩⟩⟩⟩⟩) (fun h6 k23 => ⟨(a.2.2.1,a.1.2.1),⟨rfl,⟨rfl,⟨rfl,⟨rfl,⟨rfl,⟨rfl,⟨trivial,br k23 Cnd.dec (fun h9 k19 => ⟨a.1,⟨rfl,⟨rfl,⟨rfl,⟨rfl,slQ (Rds.self (enc := e_agent_Item)) (⟨trivial,⟨(congrArg (fun x : T_agent_Report × Int × T_agent_Agent => x.1.1) k19 :),⟨(congrArg (fun x : T_agent_Report × Int × T_agent_Agent => x.1.2.1) k19 :),⟨(congrArg (fun x : T_agent_Report × Int × T_agent_Agent => x.1.2.2.1) k19 :),⟨(congrArg (fun x : T_agent_Report × Int × T_agent_Agent => x.1.2.2.2) k19 :),⟨(congrArg (fun x : T_agent_Report × Int × T_agent_Agent => x.2.1) k19 :),⟨(congrArg (fun x : T_agent_Report × Int × T_agent_Agent => x.2.2.1) k19 :),⟨(congrArg (fun x : T_agent_Report × Int × T_agent_Agent => x.2.2.2.1.1) k19 :),⟨(congrArg (fun x : T_agent_Report × Int × T_agent_Agent => x.2.2.2.1.2.1) k19 :),⟨(congrArg (fun x : T_agent_Report × Int × T_agent_Agent => x.2.2.2.1.2.2) k19 :),slQ (Rds.to (Rds.self (enc := e_agent_Item)) (congrArg (fun x : T_agent_Report × Int × T_agent_Agent => x.2.2.2.2) k19 :)) (trivial)⟩⟩⟩⟩⟩⟩⟩⟩⟩⟩)⟩⟩⟩⟩⟩) (fun h10 k20 => ⟨a.2.2.2.2,slQ (Rds.self (enc := e_agent_Item)) (⟨k20.1,⟨(a.1.1,a.2.2.1,(cloneI (a.2.2.2.2))),⟨rfl,⟨rfl,⟨rfl,⟨rfl,slQ (Rds.self (enc := e_agent_Item)) (⟨trivial,⟨(congrArg (fun x : T_agent_Report × Int × T_agent_Agent => x.1.1) k20.2 :),⟨(congrArg (fun x : T_agent_Report × Int × T_agent_Agent => x.1.2.1) k20.2 :),⟨(congrArg (fun x : T_agent_Report × Int × T_agent_Agent => x.1.2.2.1) k20.2 :),⟨(congrArg (fun x : T_agent_Report × Int × T_agent_Agent => x.1.2.2.2) k20.2 :),⟨(congrArg (fun x : T_agent_Report × Int × T_agent_Agent => x.2.1) k20.2 :),⟨(congrArg (fun x : T_agent_Report × Int × T_agent_Agent => x.2.2.1) k20.2 :),⟨(congrArg (fun x : T_agent_Report × Int × T_agent_Agent => x.2.2.2.1.1) k20.2 :),⟨(congrArg (fun x : T_agent_Report × Int × T_agent_Agent => x.2.2.2.1.2.1) k20.2 :),⟨(congrArg (fun x : T_agent_Report × Int × T_agent_Agent => x.2.2.2.1.2.2) k20.2 :),slQ (Rds.to (Rds.self (enc := e_agent_Item)) (congrArg (fun x : T_agent_Report × Int × T_agent_Agent => x.2.2.2.2) k20.2 :)) (trivial)⟩⟩⟩⟩⟩⟩⟩⟩⟩⟩)⟩⟩⟩⟩⟩⟩)⟩)⟩⟩⟩⟩⟩⟩⟩⟩))⟩)⟩⟩⟩⟩⟩⟩⟩⟩
theorem f102.eq (a : T_agent_Agent × T_agent_Order) : (f102.af a).gives f102.env (f102.args a) (f102.blks a) (f102.res a) (f102.blks' a) = f102.tree a := by kernel_rfl
end Go.Abs

-- (*interregnum/interregnumref24.Agent).Take
namespace Go.Abs
open Go
end Go.Abs

/- (*interregnum/interregnumref24.Agent).Take -/
namespace Go.Abs
open Go
set_option linter.unusedVariables false
end Go.Abs

/- (*interregnum/agent.Agent).Report -/
namespace Go.Abs
open Go
set_option linter.unusedVariables false
def f107.kills (a : T_agent_Agent) : List Hint := []
def f107.cuts (a : T_agent_Agent) : List (Nat × Σ β : Type,β→Tm) := []
def f107.af (a : T_agent_Agent) : AF := AF.mk (.seq (.region [oT 2 1 (.alloc [.str ByteArray.empty,.int .i64 (0),.int .i64 (0),.int .i64 (0)]) []])
 (.seq (.seq (.region [oT 3 6 .move [0],
 oT 4 7 (.isNil true false) [3]])
 (.cond (.t 4) (.seq (.region [oT 5 8 (.build [.str ByteArray.empty,.int .i64 (0),.int .i64 (0),.int .i64 (0)] []) [],
 ⟨none,9,(.store 4),[.t 2,.t 5],none⟩])
 (.ret)) (.skip)))
 (.seq (.region [oT 6 10 .move [0],
 oT 7 11 .nilCheck [6],
 oT 8 12 (.fieldAddr 0) [7],
 oT 9 13 (.load false 1) [8],
 oT 10 14 .move [0],
 oT 11 15 .nilCheck [10],
 oT 12 16 (.fieldAddr 1) [11],
 oT 13 17 (.load true 3) [12],
 oT 14 18 (.build [.str ByteArray.empty,.int .i64 (0),.int .i64 (0),.int .i64 (0)] [(0,1),(1,3)]) [9,13],
 ⟨none,19,(.store 4),[.t 2,.t 14],none⟩])
 (.ret))))
 [.cell 2 true 4] 1 14
def f107.env : Env := []
def f107.tree (a : T_agent_Agent) : Prop := (a.1 = (((reportA a).1).1))∧(a.2.1.1 = ((((reportA a).1).2).1))∧(a.2.1.2.1 = ((((reportA a).1).2).2.1))∧(a.2.1.2.2 = ((((reportA a).1).2).2.2))∧(a.1 = (((reportA a).2).1))∧(a.2.1.1 = ((((reportA a).2).2.1).1))∧(a.2.1.2.1 = ((((reportA a).2).2.1).2.1))∧(a.2.1.2.2 = ((((reportA a).2).2.1).2.2))∧SlQ a.2.2.length ((((reportA a).2).2.2).length) (gl e_agent_Item a.2.2) (gl e_agent_Item (((reportA a).2).2.2)) (True)
def f107.vc (a : T_agent_Agent) : Prop := (((a.1,a.2.1),a) = reportA a)
set_option maxRecDepth 100000 in
set_option maxHeartbeats 2000000 in
theorem f107.of (a : T_agent_Agent) (h : f107.vc a) : f107.tree a := ⟨(congrArg (fun x : T_agent_Report × T_agent_Agent => x.1.1) h :),⟨(congrArg (fun x : T_agent_Report × T_agent_Agent => x.1.2.1) h :),⟨(congrArg (fun x : T_agent_Report × T_agent_Agent => x.1.2.2.1) h :),⟨(congrArg (fun x : T_agent_Report × T_agent_Agent => x.1.2.2.2) h :),⟨(congrArg (fun x : T_agent_Report × T_agent_Agent => x.2.1) h :),⟨(congrArg (fun x : T_agent_Report × T_agent_Agent => x.2.2.1.1) h :),⟨(congrArg (fun x : T_agent_Report × T_agent_Agent => x.2.2.1.2.1) h :),⟨(congrArg (fun x : T_agent_Report × T_agent_Agent => x.2.2.1.2.2) h :),slQ (Rds.to (Rds.self (enc := e_agent_Item)) (congrArg (fun x : T_agent_Report × T_agent_Agent => x.2.2.2) h :)) (trivial)⟩⟩⟩⟩⟩⟩⟩⟩
theorem f107.eq (a : T_agent_Agent) : (f107.af a).gives f107.env (f107.args a) (f107.blks a) (f107.res a) (f107.blks' a) = f107.tree a := by kernel_rfl
end Go.Abs

-- (*interregnum/agent.Agent).Running
namespace Go.Abs
open Go
end Go.Abs

/- (*interregnum/agent.Agent).Running -/
namespace Go.Abs
open Go
set_option linter.unusedVariables false
end Go.Abs

-- interregnum/interregnumlaw24.made
namespace Go.Abs
open Go
def f103.args (a : T_interregnumref24_Order) : List D := [.agg [.str a.1,.int .i64 a.2.1.1,.int .i64 a.2.1.2.1,.int .i64 a.2.1.2.2,.int .i64 a.2.2.1.1,.int .i64 a.2.2.1.2.1,.int .i64 a.2.2.1.2.2,.slice .ro 6 a.2.2.2.length (gl e_interregnumref24_Item a.2.2.2)]]
def f103.blks (a : T_interregnumref24_Order) : List (List D) := []
def f103.res (a : T_interregnumref24_Order) : List D := [.agg [.str ((madeA a).1),.int .i64 (((madeA a).2.1).1),.int .i64 (((madeA a).2.1).2.1),.int .i64 (((madeA a).2.1).2.2),.int .i64 (((madeA a).2.2.1).1),.int .i64 (((madeA a).2.2.1).2.1),.int .i64 (((madeA a).2.2.1).2.2),.slice .ro 6 (((madeA a).2.2.2).length) (gl e_agent_Item ((madeA a).2.2.2))]]
def f103.blks' (a : T_interregnumref24_Order) : List (List D) := []
def f103.C : Contract := FnC f103.args f103.blks (fun a => ord_pre a) f103.res f103.blks'
end Go.Abs

/- interregnum/interregnumlaw24.made -/
namespace Go.Abs
open Go
set_option linter.unusedVariables false
def f103.S0 (a : T_interregnumref24_Order) (x : Int × ByteArray × Int × Int × Int × Int × Int × Int × (List (T_agent_Item))) : Tm := ⟨[.dead,.ptr 0 0,.ptr 1 0,.ptr 17 0,.dead,.dead,.dead,.dead,.dead,.dead,.dead,.dead,.dead,.dead,.int .i64 (a.2.2.2.length : Int),.int .i64 x.1,.dead,.dead,.dead,.dead,.dead,.dead,.dead,.dead,.dead,.dead,.dead,.dead,.dead,.dead],[(0,false,[.str a.1,.int .i64 a.2.1.1,.int .i64 a.2.1.2.1,.int .i64 a.2.1.2.2,.int .i64 a.2.2.1.1,.int .i64 a.2.2.1.2.1,.int .i64 a.2.2.1.2.2,.slice .ro 6 a.2.2.2.length (gl e_interregnumref24_Item a.2.2.2)]),(1,false,[.str ByteArray.empty,.int .i64 (0 : Int),.int .i64 (0 : Int),.int .i64 (0 : Int),.int .i64 (0 : Int),.int .i64 (0 : Int),.int .i64 (0 : Int),.slice (.own 9) 6 0 gnil]),(17,false,[.str x.2.1,.int .i64 x.2.2.1,.int .i64 x.2.2.2.1,.int .i64 x.2.2.2.2.1,.int .i64 x.2.2.2.2.2.1,.int .i64 x.2.2.2.2.2.2.1,.int .i64 x.2.2.2.2.2.2.2.1,.slice (.own 27) 6 x.2.2.2.2.2.2.2.2.length (gl e_agent_Item x.2.2.2.2.2.2.2.2)])],[(9,6,0),(27,6,x.2.2.2.2.2.2.2.2.length)]⟩
def f103.kills (a : T_interregnumref24_Order) : List Hint := [.tell (Int × ByteArray × Int × Int × Int × Int × Int × Int × (List (T_agent_Item))) (f103.S0 a)]
def f103.cuts (a : T_interregnumref24_Order) : List (Nat × Σ β : Type,β→Tm) := [(17008000001,⟨Unit,fun x => ⟨[],[],[]⟩⟩)]
def f103.af (a : T_interregnumref24_Order) : AF := AF.mk (.seq (.region [oT 1 0 .box [0],
 oT 2 1 (.alloc [.str ByteArray.empty,.int .i64 (0),.int .i64 (0),.int .i64 (0),.int .i64 (0),.int .i64 (0),.int .i64 (0),.slice (.own 0) 6 0 gnil]) []])
 (.seq (.region [oT 5 10 (.fieldAddr 0) [1],
 oT 6 11 (.load false 1) [5],
 oT 7 12 (.fieldAddr 1) [1],
 oT 8 13 (.load true 3) [7],
 oT 9 14 (.fieldAddr 4) [1],
 oT 10 15 (.load true 3) [9],
 oT 11 16 (.build [.str ByteArray.empty,.int .i64 (0),.int .i64 (0),.int .i64 (0),.int .i64 (0),.int .i64 (0),.int .i64 (0),.slice .full 6 0 gnil] [(0,1),(1,3),(4,3)]) [6,8,10],
 oT 3 17 (.alloc [.str ByteArray.empty,.int .i64 (0),.int .i64 (0),.int .i64 (0),.int .i64 (0),.int .i64 (0),.int .i64 (0),.slice (.own 0) 6 0 gnil]) [],
 ⟨none,26,(.store 8),[.t 3,.t 11],none⟩])
 (.seq (.adopt 27 17 7) (.seq (.seq (.region [oT 12 28 (.fieldAddr 7) [1],
 oT 13 29 (.load false 1) [12],
 oT 14 30 (.len false) [13],
 ⟨(some 15),31,.move,[.c (.int .i64 (0))],none⟩])
 (.block 0 (.loopT (Int × ByteArray × Int × Int × Int × Int × Int × Int × (List (T_agent_Item))) (f103.S0 a) 32 48 (.seq (.region [oT 16 32 (.bin .lss) [15,14]])
 (.seq (.cond (.t 16) (.skip) (.exit 0))
 (.seq (.block 1 (.seq (.region [oT 17 33 .move [15],
 oT 4 34 .move [17]])
 (.region [oT 18 35 (.fieldAddr 7) [3],
 oT 19 36 (.load false 1) [18],
 oT 20 37 (.fieldAddr 7) [1],
 oT 21 38 (.load false 1) [20],
 oT 22 39 .move [4],
 oT 23 40 (.indexAddr 6 none) [21,22],
 oT 24 41 (.load true 6) [23],
 oT 25 42 (.buildSlice 6 1 [.str ByteArray.empty,.int .i64 (0),.int .i64 (0),.int .i64 (0),.int .i64 (0),.int .i64 (0)] [(0,6)]) [24],
 oT 26 43 (.append 6 56) [19,25],
 oT 27 44 (.fieldAddr 7) [3],
 ⟨none,45,(.store 1),[.t 27,.t 26],none⟩])))
 (.region [⟨(some 28),46,(.bin .add),[.t 15,.c (.int .i64 (1))],none⟩,
 oT 15 47 .move [28]])))))))
 (.seq (.region [oT 29 48 (.load true 8) [3],
 ⟨none,49,(.store 8),[.t 2,.t 29],none⟩])
 (.ret))))))
 [.cell 2 true 8] 0 29
def f103.env : Env := []
def f103.tree (a : T_interregnumref24_Order) : Prop := ∃ (I2 : (Int × ByteArray × Int × Int × Int × Int × Int × Int × (List (T_agent_Item)))→Prop) (μ3 : (Int × ByteArray × Int × Int × Int × Int × Int × Int × (List (T_agent_Item)))→Nat),(∃ x1 : Int × ByteArray × Int × Int × Int × Int × Int × Int × (List (T_agent_Item)),((a.2.2.2.length : Int) = (a.2.2.2.length : Int))∧((0 : Int) = x1.1)∧(a.1 = a.1)∧(a.2.1.1 = a.2.1.1)∧(a.2.1.2.1 = a.2.1.2.1)∧(a.2.1.2.2 = a.2.1.2.2)∧(a.2.2.1.1 = a.2.2.1.1)∧(a.2.2.1.2.1 = a.2.2.1.2.1)∧(a.2.2.1.2.2 = a.2.2.1.2.2)∧SlS e_interregnumref24_Item a.2.2.2 ((ByteArray.empty = ByteArray.empty)∧((0 : Int) = (0 : Int))∧((0 : Int) = (0 : Int))∧((0 : Int) = (0 : Int))∧((0 : Int) = (0 : Int))∧((0 : Int) = (0 : Int))∧((0 : Int) = (0 : Int))∧SlQ 0 0 gnil gnil ((a.1 = x1.2.1)∧(a.2.1.1 = x1.2.2.1)∧(a.2.1.2.1 = x1.2.2.2.1)∧(a.2.1.2.2 = x1.2.2.2.2.1)∧(a.2.2.1.1 = x1.2.2.2.2.2.1)∧(a.2.2.1.2.1 = x1.2.2.2.2.2.2.1)∧(a.2.2.1.2.2 = x1.2.2.2.2.2.2.2.1)∧SlQ 0 x1.2.2.2.2.2.2.2.2.length gnil (gl e_agent_Item x1.2.2.2.2.2.2.2.2) ((0 = 0)∧(0 = x1.2.2.2.2.2.2.2.2.length)∧I2 x1))))∧∀ y4 : Int × ByteArray × Int × Int × Int × Int × Int × Int × (List (T_agent_Item)),I2 y4→(Br (decide (y4.1 < (a.2.2.2.length : Int))) (Br (decide ((0 : Int)≤y4.1) && decide (y4.1 < (a.2.2.2.length : Int))) ((y4.2.2.2.2.2.2.2.2.length = y4.2.2.2.2.2.2.2.2.length∧room ((y4.2.2.2.2.2.2.2.2.length + 1) * 56))∧(Let (IntKind.i64.wrap (y4.1 + (1 : Int))) (fun v8 : Int => ∃ x9 : Int × ByteArray × Int × Int × Int × Int × Int × Int × (List (T_agent_Item)),((a.2.2.2.length : Int) = (a.2.2.2.length : Int))∧(v8 = x9.1)∧(a.1 = a.1)∧(a.2.1.1 = a.2.1.1)∧(a.2.1.2.1 = a.2.1.2.1)∧(a.2.1.2.2 = a.2.1.2.2)∧(a.2.2.1.1 = a.2.2.1.1)∧(a.2.2.1.2.1 = a.2.2.1.2.1)∧(a.2.2.1.2.2 = a.2.2.1.2.2)∧SlS e_interregnumref24_Item a.2.2.2 ((ByteArray.empty = ByteArray.empty)∧((0 : Int) = (0 : Int))∧((0 : Int) = (0 : Int))∧((0 : Int) = (0 : Int))∧((0 : Int) = (0 : Int))∧((0 : Int) = (0 : Int))∧((0 : Int) = (0 : Int))∧SlQ 0 0 gnil gnil ((y4.2.1 = x9.2.1)∧(y4.2.2.1 = x9.2.2.1)∧(y4.2.2.2.1 = x9.2.2.2.1)∧(y4.2.2.2.2.1 = x9.2.2.2.2.1)∧(y4.2.2.2.2.2.1 = x9.2.2.2.2.2.1)∧(y4.2.2.2.2.2.2.1 = x9.2.2.2.2.2.2.1)∧(y4.2.2.2.2.2.2.2.1 = x9.2.2.2.2.2.2.2.1)∧SlQ (y4.2.2.2.2.2.2.2.2.length + 1) x9.2.2.2.2.2.2.2.2.length (gapp (gl e_agent_Item y4.2.2.2.2.2.2.2.2) y4.2.2.2.2.2.2.2.2.length (fun _ => [.str ((at_ a.2.2.2 y4.1).1),.int .i64 ((at_ a.2.2.2 y4.1).2.1),.int .i64 ((at_ a.2.2.2 y4.1).2.2.1),.int .i64 (((at_ a.2.2.2 y4.1).2.2.2).1),.int .i64 (((at_ a.2.2.2 y4.1).2.2.2).2.1),.int .i64 (((at_ a.2.2.2 y4.1).2.2.2).2.2)])) (gl e_agent_Item x9.2.2.2.2.2.2.2.2) ((0 = 0)∧((y4.2.2.2.2.2.2.2.2.length + 1) = x9.2.2.2.2.2.2.2.2.length)∧I2 x9∧μ3 x9 < μ3 y4)))))) False) ((y4.2.1 = ((madeA a).1))∧(y4.2.2.1 = (((madeA a).2.1).1))∧(y4.2.2.2.1 = (((madeA a).2.1).2.1))∧(y4.2.2.2.2.1 = (((madeA a).2.1).2.2))∧(y4.2.2.2.2.2.1 = (((madeA a).2.2.1).1))∧(y4.2.2.2.2.2.2.1 = (((madeA a).2.2.1).2.1))∧(y4.2.2.2.2.2.2.2.1 = (((madeA a).2.2.1).2.2))∧SlQ y4.2.2.2.2.2.2.2.2.length (((madeA a).2.2.2).length) (gl e_agent_Item y4.2.2.2.2.2.2.2.2) (gl e_agent_Item ((madeA a).2.2.2)) (True)))
def f103.vc (a : T_interregnumref24_Order) : Prop := (∃ (I2 : (Int × ByteArray × Int × Int × Int × Int × Int × Int × (List (T_agent_Item)))→Prop) (μ3 : (Int × ByteArray × Int × Int × Int × Int × Int × Int × (List (T_agent_Item)))→Nat),I2 ((0 : Int),a.1,a.2.1.1,a.2.1.2.1,a.2.1.2.2,a.2.2.1.1,a.2.2.1.2.1,a.2.2.1.2.2,[])∧∀ y4 : Int × ByteArray × Int × Int × Int × Int × Int × Int × (List (T_agent_Item)),I2 y4→((y4.1 < (a.2.2.2.length : Int)→((0 : Int)≤y4.1∧y4.1 < (a.2.2.2.length : Int)∧(y4.2.2.2.2.2.2.2.2.length + 1≤1073741824∧(-9223372036854775808≤(y4.1 + (1 : Int))∧(y4.1 + (1 : Int))≤9223372036854775807∧(I2 ((y4.1 + (1 : Int)),y4.2.1,y4.2.2.1,y4.2.2.2.1,y4.2.2.2.2.1,y4.2.2.2.2.2.1,y4.2.2.2.2.2.2.1,y4.2.2.2.2.2.2.2.1,y4.2.2.2.2.2.2.2.2 ++ ([(at_ a.2.2.2 y4.1)]))∧μ3 ((y4.1 + (1 : Int)),y4.2.1,y4.2.2.1,y4.2.2.2.1,y4.2.2.2.2.1,y4.2.2.2.2.2.1,y4.2.2.2.2.2.2.1,y4.2.2.2.2.2.2.2.1,y4.2.2.2.2.2.2.2.2 ++ ([(at_ a.2.2.2 y4.1)])) < μ3 y4)))))∧(¬ (y4.1 < (a.2.2.2.length : Int))→((y4.2.1,(y4.2.2.1,y4.2.2.2.1,y4.2.2.2.2.1),(y4.2.2.2.2.2.1,y4.2.2.2.2.2.2.1,y4.2.2.2.2.2.2.2.1),y4.2.2.2.2.2.2.2.2) = madeA a))))
set_option maxRecDepth 100000 in
set_option maxHeartbeats 2000000 in
theorem f103.of (a : T_interregnumref24_Order) (h : f103.vc a) : f103.tree a := Exists.elim h (fun I2 h18_ => Exists.elim h18_ (fun μ3 h18 => ⟨I2,μ3,⟨((0 : Int),a.1,a.2.1.1,a.2.1.2.1,a.2.1.2.2,a.2.2.1.1,a.2.2.1.2.1,a.2.2.1.2.2,[]),⟨rfl,⟨rfl,⟨rfl,⟨rfl,⟨rfl,⟨rfl,⟨rfl,⟨rfl,⟨rfl,SlS.mk  (⟨rfl,⟨rfl,⟨rfl,⟨rfl,⟨rfl,⟨rfl,⟨rfl,slQ ⟨rfl,fun _ _ => DEqs.refl _⟩ (⟨rfl,⟨rfl,⟨rfl,⟨rfl,⟨rfl,⟨rfl,⟨rfl,slQ (Rds.nil (enc := e_agent_Item)) (⟨rfl,⟨(numR gnil (Rds.nil (enc := e_agent_Item))),h18.1⟩⟩)⟩⟩⟩⟩⟩⟩⟩)⟩⟩⟩⟩⟩⟩⟩)⟩⟩⟩⟩⟩⟩⟩⟩⟩⟩,fun y4 h20 => br (h18.2 y4 h20) Cnd.dec (fun h5 k16 => chk k16.2.2 Cnd.ix ⟨k16.1,k16.2.1⟩ (fun h7 k14 => ⟨⟨rfl,(room_of k14.1 (by decide))⟩,wrapK.i64 k14.2 (fun h11 h12 k13 => ⟨((y4.1 + (1 : Int)),y4.2.1,y4.2.2.1,y4.2.2.2.1,y4.2.2.2.2.1,y4.2.2.2.2.2.1,y4.2.2.2.2.2.2.1,y4.2.2.2.2.2.2.2.1,y4.2.2.2.2.2.2.2.2 ++ ([(at_ a.2.2.2 y4.1)])),⟨rfl,⟨rfl,⟨rfl,⟨rfl,⟨rfl,⟨rfl,⟨rfl,⟨rfl,⟨rfl,SlS.mk  (⟨rfl,⟨rfl,⟨rfl,⟨rfl,⟨rfl,⟨rfl,⟨rfl,slQ ⟨rfl,fun _ _ => DEqs.refl _⟩ (⟨rfl,⟨rfl,⟨rfl,⟨rfl,⟨rfl,⟨rfl,⟨rfl,slQ (Rds.app (enc := e_agent_Item) (Rds.self (enc := e_agent_Item)) (Rds.one (enc := e_agent_Item) (DEqs.refl _))) (⟨rfl,⟨(numR (gapp (gl e_agent_Item y4.2.2.2.2.2.2.2.2) y4.2.2.2.2.2.2.2.2.length (fun _ => [.str ((at_ a.2.2.2 y4.1).1),.int .i64 ((at_ a.2.2.2 y4.1).2.1),.int .i64 ((at_ a.2.2.2 y4.1).2.2.1),.int .i64 (((at_ a.2.2.2 y4.1).2.2.2).1),.int .i64 (((at_ a.2.2.2 y4.1).2.2.2).2.1),.int .i64 (((at_ a.2.2.2 y4.1).2.2.2).2.2)])) (Rds.app (enc := e_agent_Item) (Rds.self (enc := e_agent_Item)) (Rds.one (enc := e_agent_Item) (DEqs.refl _)))),k13⟩⟩)⟩⟩⟩⟩⟩⟩⟩)⟩⟩⟩⟩⟩⟩⟩)⟩⟩⟩⟩⟩⟩⟩⟩⟩⟩)⟩)) (fun h6 k17 => ⟨(congrArg (fun x : T_agent_Order => x.1) k17 :),⟨(congrArg (fun x : T_agent_Order => x.2.1.1) k17 :),⟨(congrArg (fun x : T_agent_Order => x.2.1.2.1) k17 :),⟨(congrArg (fun x : T_agent_Order => x.2.1.2.2) k17 :),⟨(congrArg (fun x : T_agent_Order => x.2.2.1.1) k17 :),⟨(congrArg (fun x : T_agent_Order => x.2.2.1.2.1) k17 :),⟨(congrArg (fun x : T_agent_Order => x.2.2.1.2.2) k17 :),slQ (Rds.to (Rds.self (enc := e_agent_Item)) (congrArg (fun x : T_agent_Order => x.2.2.2) k17 :)) (trivial)⟩⟩⟩⟩⟩⟩⟩)⟩))
theorem f103.eq (a : T_interregnumref24_Order) : (f103.af a).gives f103.env (f103.args a) (f103.blks a) (f103.res a) (f103.blks' a) = f103.tree a := by kernel_rfl
end Go.Abs

-- interregnum/interregnumlaw24.items
namespace Go.Abs
open Go
def f105.args (a : (List (T_agent_Item)) × (List (T_interregnumref24_Item))) : List D := [.slice .ro 6 a.1.length (gl e_agent_Item a.1),.slice .ro 6 a.2.length (gl e_interregnumref24_Item a.2)]
def f105.blks (a : (List (T_agent_Item)) × (List (T_interregnumref24_Item))) : List (List D) := []
def f105.res (a : (List (T_agent_Item)) × (List (T_interregnumref24_Item))) : List D := [.bool (sameI a)]
def f105.blks' (a : (List (T_agent_Item)) × (List (T_interregnumref24_Item))) : List (List D) := []
def f105.C : Contract := FnC f105.args f105.blks (fun a => sameI_pre a) f105.res f105.blks'
end Go.Abs

/- interregnum/interregnumlaw24.items -/
namespace Go.Abs
open Go
set_option linter.unusedVariables false
def f105.S0 (a : (List (T_agent_Item)) × (List (T_interregnumref24_Item))) (x : Int) : Tm := ⟨[.slice .ro 6 a.1.length (gl e_agent_Item a.1),.slice .ro 6 a.2.length (gl e_interregnumref24_Item a.2),.dead,.dead,.dead,.dead,.dead,.dead,.dead,.dead,.dead,.dead,.int .i64 (a.1.length : Int),.int .i64 x,.dead,.dead,.dead,.dead,.dead,.dead,.dead,.dead,.dead,.dead,.dead,.dead],[],[]⟩
def f105.kills (a : (List (T_agent_Item)) × (List (T_interregnumref24_Item))) : List Hint := [.tell Int (f105.S0 a)]
def f105.cuts (a : (List (T_agent_Item)) × (List (T_interregnumref24_Item))) : List (Nat × Σ β : Type,β→Tm) := []
def f105.af (a : (List (T_agent_Item)) × (List (T_interregnumref24_Item))) : AF := AF.mk (.seq (.region [⟨(some 4),0,.move,[.c (.bool false)],none⟩])
 (.seq (.seq (.region [oT 6 1 .move [0],
 oT 7 2 (.len false) [6],
 oT 8 3 .move [1],
 oT 9 4 (.len false) [8],
 oT 10 5 (.bin .neq) [7,9]])
 (.cond (.t 10) (.seq (.region [⟨(some 4),6,.move,[.c (.bool false)],none⟩])
 (.ret)) (.skip)))
 (.seq (.seq (.region [oT 11 7 .move [0],
 oT 12 8 (.len false) [11],
 ⟨(some 13),9,.move,[.c (.int .i64 (0))],none⟩])
 (.block 0 (.loopT Int (f105.S0 a) 10 25 (.seq (.region [oT 14 10 (.bin .lss) [13,12]])
 (.seq (.cond (.t 14) (.skip) (.exit 0))
 (.seq (.block 1 (.seq (.region [oT 15 11 .move [13],
 oT 5 12 .move [15]])
 (.seq (.region [oT 16 13 .move [0],
 oT 17 14 .move [5],
 oT 18 15 (.indexAddr 6 none) [16,17],
 oT 19 16 (.load true 6) [18],
 oT 20 17 .move [1],
 oT 21 18 .move [5],
 oT 22 19 (.indexAddr 6 none) [20,21],
 oT 23 20 (.load true 6) [22],
 oT 24 21 (.eqAgg true [2,0,0,0,0,0]) [19,23]])
 (.cond (.t 24) (.seq (.region [⟨(some 4),22,.move,[.c (.bool false)],none⟩])
 (.ret)) (.skip)))))
 (.region [⟨(some 25),23,(.bin .add),[.t 13,.c (.int .i64 (1))],none⟩,
 oT 13 24 .move [25]])))))))
 (.seq (.region [⟨(some 4),25,.move,[.c (.bool true)],none⟩])
 (.ret)))))
 [.tmp 4] 0 24
def f105.env : Env := []
def f105.tree (a : (List (T_agent_Item)) × (List (T_interregnumref24_Item))) : Prop := Br ((a.1.length : Int) != (a.2.length : Int)) ((false = (sameI a))∧True) (∃ (I5 : Int→Prop) (μ6 : Int→Nat),(∃ x4 : Int,SlS e_agent_Item a.1 (SlS e_interregnumref24_Item a.2 (((a.1.length : Int) = (a.1.length : Int))∧((0 : Int) = x4)∧I5 x4)))∧∀ y7 : Int,I5 y7→(Br (decide (y7 < (a.1.length : Int))) (Br (decide ((0 : Int)≤y7) && decide (y7 < (a.1.length : Int))) (Br (decide ((0 : Int)≤y7) && decide (y7 < (a.2.length : Int))) (Br (!((((at_ a.1 y7).1).toList == ((at_ a.2 y7).1).toList) && ((((at_ a.1 y7).2.1) == ((at_ a.2 y7).2.1)) && ((((at_ a.1 y7).2.2.1) == ((at_ a.2 y7).2.2.1)) && (((((at_ a.1 y7).2.2.2).1) == (((at_ a.2 y7).2.2.2).1)) && (((((at_ a.1 y7).2.2.2).2.1) == (((at_ a.2 y7).2.2.2).2.1)) && ((((at_ a.1 y7).2.2.2).2.2) == (((at_ a.2 y7).2.2.2).2.2)))))))) ((false = (sameI a))∧True) (Let (IntKind.i64.wrap (y7 + (1 : Int))) (fun v15 : Int => ∃ x16 : Int,SlS e_agent_Item a.1 (SlS e_interregnumref24_Item a.2 (((a.1.length : Int) = (a.1.length : Int))∧(v15 = x16)∧I5 x16∧μ6 x16 < μ6 y7))))) False) False) ((true = (sameI a))∧True)))
def f105.vc (a : (List (T_agent_Item)) × (List (T_interregnumref24_Item))) : Prop := ((¬ (a.1.length : Int) = (a.2.length : Int)→(false = sameI a))∧(¬ (¬ (a.1.length : Int) = (a.2.length : Int))→(∃ (I5 : Int→Prop) (μ6 : Int→Nat),I5 (0 : Int)∧∀ y7 : Int,I5 y7→((y7 < (a.1.length : Int)→((0 : Int)≤y7∧y7 < (a.1.length : Int)∧((0 : Int)≤y7∧y7 < (a.2.length : Int)∧((¬ (((at_ a.1 y7).1) = ((at_ a.2 y7).1)∧((at_ a.1 y7).2.1) = ((at_ a.2 y7).2.1)∧((at_ a.1 y7).2.2.1) = ((at_ a.2 y7).2.2.1)∧(((at_ a.1 y7).2.2.2).1) = (((at_ a.2 y7).2.2.2).1)∧(((at_ a.1 y7).2.2.2).2.1) = (((at_ a.2 y7).2.2.2).2.1)∧(((at_ a.1 y7).2.2.2).2.2) = (((at_ a.2 y7).2.2.2).2.2))→(false = sameI a))∧(¬ (¬ (((at_ a.1 y7).1) = ((at_ a.2 y7).1)∧((at_ a.1 y7).2.1) = ((at_ a.2 y7).2.1)∧((at_ a.1 y7).2.2.1) = ((at_ a.2 y7).2.2.1)∧(((at_ a.1 y7).2.2.2).1) = (((at_ a.2 y7).2.2.2).1)∧(((at_ a.1 y7).2.2.2).2.1) = (((at_ a.2 y7).2.2.2).2.1)∧(((at_ a.1 y7).2.2.2).2.2) = (((at_ a.2 y7).2.2.2).2.2)))→(-9223372036854775808≤(y7 + (1 : Int))∧(y7 + (1 : Int))≤9223372036854775807∧(I5 (y7 + (1 : Int))∧μ6 (y7 + (1 : Int)) < μ6 y7)))))))∧(¬ (y7 < (a.1.length : Int))→(true = sameI a))))))
set_option maxRecDepth 100000 in
set_option maxHeartbeats 2000000 in
theorem f105.of (a : (List (T_agent_Item)) × (List (T_interregnumref24_Item))) (h : f105.vc a) : f105.tree a := br h Cnd.ne (fun h1 k31 => ⟨k31,trivial⟩) (fun h2 k32 => Exists.elim k32 (fun I5 h28_ => Exists.elim h28_ (fun μ6 h28 => ⟨I5,μ6,⟨(0 : Int),SlS.mk  (SlS.mk  (⟨rfl,⟨rfl,h28.1⟩⟩))⟩,fun y7 h30 => br (h28.2 y7 h30) Cnd.dec (fun h8 k26 => chk k26.2.2 Cnd.ix ⟨k26.1,k26.2.1⟩ (fun h10 k24 => chk k24.2.2 Cnd.ix ⟨k24.1,k24.2.1⟩ (fun h11 k23 => br k23 (Cnd.not (Cnd.and Cnd.seq (Cnd.and Cnd.eq (Cnd.and Cnd.eq (Cnd.and Cnd.eq (Cnd.and Cnd.eq Cnd.eq)))))) (fun h12 k21 => ⟨k21,trivial⟩) (fun h13 k22 => wrapK.i64 k22 (fun h18 h19 k20 => ⟨(y7 + (1 : Int)),SlS.mk  (SlS.mk  (⟨rfl,⟨rfl,k20⟩⟩))⟩))))) (fun h9 k27 => ⟨k27,trivial⟩)⟩)))
theorem f105.eq (a : (List (T_agent_Item)) × (List (T_interregnumref24_Item))) : (f105.af a).gives f105.env (f105.args a) (f105.blks a) (f105.res a) (f105.blks' a) = f105.tree a := by kernel_rfl
end Go.Abs

-- interregnum/interregnumlaw24.few
namespace Go.Abs
open Go
def f100.args (a : List (T_interregnumref24_Order)) : List D := [.slice .ro 8 a.length (gl e_interregnumref24_Order a)]
def f100.blks (a : List (T_interregnumref24_Order)) : List (List D) := []
def f100.res (a : List (T_interregnumref24_Order)) : List D := [.bool (few24 a)]
def f100.blks' (a : List (T_interregnumref24_Order)) : List (List D) := []
def f100.C : Contract := FnC f100.args f100.blks (fun a => few24_pre a) f100.res f100.blks'
end Go.Abs

/- interregnum/interregnumlaw24.few -/
namespace Go.Abs
open Go
set_option linter.unusedVariables false
def f100.S0 (a : List (T_interregnumref24_Order)) (x : Int) : Tm := ⟨[.slice .ro 8 a.length (gl e_interregnumref24_Order a),.dead,.dead,.dead,.dead,.dead,.dead,.dead,.dead,.int .i64 (a.length : Int),.int .i64 x,.dead,.dead,.dead,.dead,.dead,.dead,.dead,.dead,.dead,.dead,.dead,.dead,.dead,.dead,.dead,.dead,.dead,.dead,.dead,.dead,.dead,.dead,.dead,.dead,.dead,.dead,.dead,.dead,.dead,.dead,.dead,.dead,.dead,.dead,.dead,.dead,.dead,.dead,.dead,.dead],[],[]⟩
def f100.S1 (a : List (T_interregnumref24_Order)) (x : Int × Int × Int × Int) : Tm := ⟨[.slice .ro 8 a.length (gl e_interregnumref24_Order a),.dead,.dead,.int .i64 x.1,.dead,.dead,.dead,.dead,.dead,.int .i64 (a.length : Int),.int .i64 x.2.1,.dead,.dead,.dead,.dead,.dead,.dead,.dead,.dead,.dead,.dead,.dead,.dead,.dead,.dead,.dead,.dead,.dead,.dead,.dead,.dead,.dead,.dead,.dead,.int .i64 x.2.2.1,.int .i64 x.2.2.2,.dead,.dead,.dead,.dead,.dead,.dead,.dead,.dead,.dead,.dead,.dead,.dead,.dead,.dead,.dead],[],[]⟩
def f100.kills (a : List (T_interregnumref24_Order)) : List Hint := [.tell Int (f100.S0 a),
 .tell (Int × Int × Int × Int) (f100.S1 a)]
def f100.cuts (a : List (T_interregnumref24_Order)) : List (Nat × Σ β : Type,β→Tm) := []
def f100.af (a : List (T_interregnumref24_Order)) : AF := AF.mk (.seq (.region [⟨(some 2),0,.move,[.c (.bool false)],none⟩])
 (.seq (.seq (.region [oT 5 1 .move [0],
 oT 6 2 (.len false) [5],
 ⟨(some 7),3,(.bin .gtr),[.t 6,.c (.int .i64 (60))],none⟩])
 (.cond (.t 7) (.seq (.region [⟨(some 2),4,.move,[.c (.bool false)],none⟩])
 (.ret)) (.skip)))
 (.seq (.seq (.region [oT 8 5 .move [0],
 oT 9 6 (.len false) [8],
 ⟨(some 10),7,.move,[.c (.int .i64 (0))],none⟩])
 (.block 0 (.loopT Int (f100.S0 a) 8 54 (.seq (.region [oT 11 8 (.bin .lss) [10,9]])
 (.seq (.cond (.t 11) (.skip) (.exit 0))
 (.seq (.block 1 (.seq (.region [oT 12 9 .move [10],
 oT 3 10 .move [12]])
 (.seq (.seq (.region [oT 13 11 .move [0],
 oT 14 12 .move [3],
 oT 15 13 (.indexAddr 8 none) [13,14],
 oT 16 14 (.fieldAddr 7) [15],
 oT 17 15 (.load false 1) [16],
 oT 18 16 (.len false) [17],
 ⟨(some 19),17,(.bin .gtr),[.t 18,.c (.int .i64 (60))],none⟩,
 oT 20 18 .move [19],
 oG 21 19 .move [0] 20 false,
 oG 22 20 .move [3] 20 false,
 oG 23 21 (.indexAddr 8 none) [21,22] 20 false,
 oG 24 22 (.fieldAddr 0) [23] 20 false,
 oG 25 23 (.load false 1) [24] 20 false,
 oG 26 24 (.len true) [25] 20 false,
 ⟨(some 27),25,(.bin .gtr),[.t 26,.c (.int .i64 (1000))],(some (20,false))⟩,
 ⟨(some 28),26,.pick,[.t 20,.c (.bool true),.t 27],none⟩])
 (.cond (.t 28) (.seq (.region [⟨(some 2),27,.move,[.c (.bool false)],none⟩])
 (.ret)) (.skip)))
 (.seq (.region [oT 29 28 .move [0],
 oT 30 29 .move [3],
 oT 31 30 (.indexAddr 8 none) [29,30],
 oT 32 31 (.fieldAddr 7) [31],
 oT 33 32 (.load false 1) [32],
 oT 34 33 (.len false) [33],
 ⟨(some 35),34,.move,[.c (.int .i64 (0))],none⟩])
 (.block 2 (.loopT (Int × Int × Int × Int) (f100.S1 a) 35 52 (.seq (.region [oT 36 35 (.bin .lss) [35,34]])
 (.seq (.cond (.t 36) (.skip) (.exit 2))
 (.seq (.block 3 (.seq (.region [oT 37 36 .move [35],
 oT 4 37 .move [37]])
 (.seq (.region [oT 38 38 .move [0],
 oT 39 39 .move [3],
 oT 40 40 (.indexAddr 8 none) [38,39],
 oT 41 41 (.fieldAddr 7) [40],
 oT 42 42 (.load false 1) [41],
 oT 43 43 .move [4],
 oT 44 44 (.indexAddr 6 none) [42,43],
 oT 45 45 (.fieldAddr 0) [44],
 oT 46 46 (.load false 1) [45],
 oT 47 47 (.len true) [46],
 ⟨(some 48),48,(.bin .gtr),[.t 47,.c (.int .i64 (1000))],none⟩])
 (.cond (.t 48) (.seq (.region [⟨(some 2),49,.move,[.c (.bool false)],none⟩])
 (.ret)) (.skip)))))
 (.region [⟨(some 49),50,(.bin .add),[.t 35,.c (.int .i64 (1))],none⟩,
 oT 35 51 .move [49]]))))))))))
 (.region [⟨(some 50),52,(.bin .add),[.t 10,.c (.int .i64 (1))],none⟩,
 oT 10 53 .move [50]])))))))
 (.seq (.region [⟨(some 2),54,.move,[.c (.bool true)],none⟩])
 (.ret)))))
 [.tmp 2] 0 50
def f100.env : Env := []
def f100.tree (a : List (T_interregnumref24_Order)) : Prop := Br (decide ((60 : Int) < (a.length : Int))) ((false = (few24 a))∧True) (∃ (I5 : Int→Prop) (μ6 : Int→Nat),(∃ x4 : Int,SlS e_interregnumref24_Order a (((a.length : Int) = (a.length : Int))∧((0 : Int) = x4)∧I5 x4))∧∀ y7 : Int,I5 y7→(Br (decide (y7 < (a.length : Int))) (Br (decide ((0 : Int)≤y7) && decide (y7 < (a.length : Int))) (Br (decide ((60 : Int) < (((at_ a y7).2.2.2).length : Int))) ((false = (few24 a))∧True) (Br (decide ((0 : Int)≤y7) && decide (y7 < (a.length : Int))) (Br (decide ((1000 : Int) < (((at_ a y7).1).size : Int))) ((false = (few24 a))∧True) (Br (decide ((0 : Int)≤y7) && decide (y7 < (a.length : Int))) (∃ (I20 : (Int × Int × Int × Int)→Prop) (μ21 : (Int × Int × Int × Int)→Nat),(∃ x19 : Int × Int × Int × Int,SlS e_interregnumref24_Order a ((y7 = x19.1)∧((a.length : Int) = (a.length : Int))∧(y7 = x19.2.1)∧((((at_ a y7).2.2.2).length : Int) = x19.2.2.1)∧((0 : Int) = x19.2.2.2)∧I20 x19))∧∀ y22 : Int × Int × Int × Int,I20 y22→(Br (decide (y22.2.2.2 < y22.2.2.1)) (Br (decide ((0 : Int)≤y22.1) && decide (y22.1 < (a.length : Int))) (Br (decide ((0 : Int)≤y22.2.2.2) && decide (y22.2.2.2 < (((at_ a y22.1).2.2.2).length : Int))) (Br (decide ((1000 : Int) < (((at_ ((at_ a y22.1).2.2.2) y22.2.2.2).1).size : Int))) ((false = (few24 a))∧True) (Let (IntKind.i64.wrap (y22.2.2.2 + (1 : Int))) (fun v30 : Int => ∃ x31 : Int × Int × Int × Int,SlS e_interregnumref24_Order a ((y22.1 = x31.1)∧((a.length : Int) = (a.length : Int))∧(y22.2.1 = x31.2.1)∧(y22.2.2.1 = x31.2.2.1)∧(v30 = x31.2.2.2)∧I20 x31∧μ21 x31 < μ21 y22)))) False) False) (Let (IntKind.i64.wrap (y22.2.1 + (1 : Int))) (fun v40 : Int => ∃ x41 : Int,SlS e_interregnumref24_Order a (((a.length : Int) = (a.length : Int))∧(v40 = x41)∧I5 x41∧μ6 x41 < μ6 y7))))) False)) False)) False) ((true = (few24 a))∧True)))
def f100.vc (a : List (T_interregnumref24_Order)) : Prop := (((60 : Int) < (a.length : Int)→(false = few24 a))∧(¬ ((60 : Int) < (a.length : Int))→(∃ (I5 : Int→Prop) (μ6 : Int→Nat),I5 (0 : Int)∧∀ y7 : Int,I5 y7→((y7 < (a.length : Int)→((0 : Int)≤y7∧y7 < (a.length : Int)∧(((60 : Int) < (((at_ a y7).2.2.2).length : Int)→(false = few24 a))∧(¬ ((60 : Int) < (((at_ a y7).2.2.2).length : Int))→((0 : Int)≤y7∧y7 < (a.length : Int)∧(((1000 : Int) < (((at_ a y7).1).size : Int)→(false = few24 a))∧(¬ ((1000 : Int) < (((at_ a y7).1).size : Int))→((0 : Int)≤y7∧y7 < (a.length : Int)∧(∃ (I20 : (Int × Int × Int × Int)→Prop) (μ21 : (Int × Int × Int × Int)→Nat),I20 (y7,y7,(((at_ a y7).2.2.2).length : Int),(0 : Int))∧∀ y22 : Int × Int × Int × Int,I20 y22→((y22.2.2.2 < y22.2.2.1→((0 : Int)≤y22.1∧y22.1 < (a.length : Int)∧((0 : Int)≤y22.2.2.2∧y22.2.2.2 < (((at_ a y22.1).2.2.2).length : Int)∧(((1000 : Int) < (((at_ ((at_ a y22.1).2.2.2) y22.2.2.2).1).size : Int)→(false = few24 a))∧(¬ ((1000 : Int) < (((at_ ((at_ a y22.1).2.2.2) y22.2.2.2).1).size : Int))→(-9223372036854775808≤(y22.2.2.2 + (1 : Int))∧(y22.2.2.2 + (1 : Int))≤9223372036854775807∧(I20 (y22.1,y22.2.1,y22.2.2.1,(y22.2.2.2 + (1 : Int)))∧μ21 (y22.1,y22.2.1,y22.2.2.1,(y22.2.2.2 + (1 : Int))) < μ21 y22)))))))∧(¬ (y22.2.2.2 < y22.2.2.1)→(-9223372036854775808≤(y22.2.1 + (1 : Int))∧(y22.2.1 + (1 : Int))≤9223372036854775807∧(I5 (y22.2.1 + (1 : Int))∧μ6 (y22.2.1 + (1 : Int)) < μ6 y7)))))))))))))∧(¬ (y7 < (a.length : Int))→(true = few24 a))))))
set_option maxRecDepth 100000 in
set_option maxHeartbeats 2000000 in
theorem f100.of (a : List (T_interregnumref24_Order)) (h : f100.vc a) : f100.tree a := br h Cnd.dec (fun h1 k64 => ⟨k64,trivial⟩) (fun h2 k65 => Exists.elim k65 (fun I5 h61_ => Exists.elim h61_ (fun μ6 h61 => ⟨I5,μ6,⟨(0 : Int),SlS.mk  (⟨rfl,⟨rfl,h61.1⟩⟩)⟩,fun y7 h63 => br (h61.2 y7 h63) Cnd.dec (fun h8 k59 => chk k59.2.2 Cnd.ix ⟨k59.1,k59.2.1⟩ (fun h10 k57 => br k57 Cnd.dec (fun h11 k55 => ⟨k55,trivial⟩) (fun h12 k56 => chk k56.2.2 Cnd.ix ⟨k56.1,k56.2.1⟩ (fun h14 k54 => br k54 Cnd.dec (fun h15 k52 => ⟨k52,trivial⟩) (fun h16 k53 => chk k53.2.2 Cnd.ix ⟨k53.1,k53.2.1⟩ (fun h18 k51 => Exists.elim k51 (fun I20 h48_ => Exists.elim h48_ (fun μ21 h48 => ⟨I20,μ21,⟨(y7,y7,(((at_ a y7).2.2.2).length : Int),(0 : Int)),SlS.mk  (⟨rfl,⟨rfl,⟨rfl,⟨rfl,⟨rfl,h48.1⟩⟩⟩⟩⟩)⟩,fun y22 h50 => br (h48.2 y22 h50) Cnd.dec (fun h23 k46 => chk k46.2.2 Cnd.ix ⟨k46.1,k46.2.1⟩ (fun h25 k39 => chk k39.2.2 Cnd.ix ⟨k39.1,k39.2.1⟩ (fun h26 k38 => br k38 Cnd.dec (fun h27 k36 => ⟨k36,trivial⟩) (fun h28 k37 => wrapK.i64 k37 (fun h33 h34 k35 => ⟨(y22.1,y22.2.1,y22.2.2.1,(y22.2.2.2 + (1 : Int))),SlS.mk  (⟨rfl,⟨rfl,⟨rfl,⟨rfl,⟨rfl,k35⟩⟩⟩⟩⟩)⟩))))) (fun h24 k47 => wrapK.i64 k47 (fun h43 h44 k45 => ⟨(y22.2.1 + (1 : Int)),SlS.mk  (⟨rfl,⟨rfl,k45⟩⟩)⟩))⟩)))))))) (fun h9 k60 => ⟨k60,trivial⟩)⟩)))
theorem f100.eq (a : List (T_interregnumref24_Order)) : (f100.af a).gives f100.env (f100.args a) (f100.blks a) (f100.res a) (f100.blks' a) = f100.tree a := by kernel_rfl
end Go.Abs

-- interregnum/interregnumlaw24.awake
namespace Go.Abs
open Go
def f98.args (a : Unit) : List D := []
def f98.blks (a : Unit) : List (List D) := []
def f98.res (a : Unit) : List D := [.bool (lawTrue a)]
def f98.blks' (a : Unit) : List (List D) := []
def f98.C : Contract := FnC f98.args f98.blks (fun _ => True) f98.res f98.blks'
end Go.Abs

/- interregnum/interregnumlaw24.awake -/
namespace Go.Abs
open Go
set_option linter.unusedVariables false
def f98.s0 : ByteArray := ⟨#[110]⟩
def f98.kills (a : Unit) : List Hint := []
def f98.cuts (a : Unit) : List (Nat × Σ β : Type,β→Tm) := []
def f98.af (a : Unit) : AF := AF.mk (.seq (.region [⟨(some 0),0,.move,[.c (.bool false)],none⟩])
 (.seq (.region [⟨(some 4),1,(.call false 101),[.c (.str f98.s0)],none⟩,
 oT 1 5 .move [4]])
 (.seq (.seq (.region [oT 5 6 .move [1],
 oT 6 7 (.isNil true false) [5]])
 (.cond (.t 6) (.seq (.region [⟨(some 0),8,.move,[.c (.bool false)],none⟩])
 (.ret)) (.skip)))
 (.seq (.region [oT 8 9 .move [1],
 ⟨(some 9),10,(.build [.int .i64 (0),.int .i64 (0),.int .i64 (0)] [(0,1)]),[.c (.int .i64 (1))],none⟩,
 ⟨(some 10),11,(.build [.str ByteArray.empty,.int .i64 (0),.int .i64 (0),.int .i64 (0),.int .i64 (0),.int .i64 (0),.int .i64 (0),.slice .full 6 0 gnil] [(0,1),(1,3)]),[.c (.str f98.s0),.t 9],none⟩,
 oT 11 12 (.call true 102) [8,10],
 oT 7 16 .move [11],
 oT 12 17 (.extract 0) [7],
 oT 13 18 (.extract 1) [7],
 oT 2 19 (.alloc [.str ByteArray.empty,.int .i64 (0),.int .i64 (0),.int .i64 (0)]) [],
 ⟨none,24,(.store 4),[.t 2,.t 12],none⟩,
 oT 3 25 .move [13]])
 (.seq (.region [oT 14 26 .move [3],
 ⟨(some 15),27,(.bin .eql),[.t 14,.c (.int .i64 (0))],none⟩,
 oT 16 28 .move [15],
 oG 17 29 (.fieldAddr 0) [2] 16 true,
 oG 18 30 (.load false 1) [17] 16 true,
 ⟨(some 19),31,(.bin .eql),[.t 18,.c (.str f98.s0)],(some (16,true))⟩,
 ⟨(some 20),32,.pick,[.t 16,.t 19,.c (.bool false)],none⟩,
 oT 21 33 .move [20],
 oG 22 34 (.fieldAddr 1) [2] 21 true,
 oG 23 35 (.load true 3) [22] 21 true,
 ⟨(some 24),36,(.build [.int .i64 (0),.int .i64 (0),.int .i64 (0)] [(0,1)]),[.c (.int .i64 (1))],(some (21,true))⟩,
 oG 25 37 (.eqAgg false [0,0,0]) [23,24] 21 true,
 ⟨(some 26),38,.pick,[.t 21,.t 25,.c (.bool false)],none⟩,
 oT 27 39 .move [26],
 ⟨(some 28),40,(.build [.int .i64 (0),.int .i64 (0),.int .i64 (0)] [(0,1)]),[.c (.int .i64 (2))],(some (27,true))⟩,
 ⟨(some 29),41,(.build [.int .i64 (0),.int .i64 (0),.int .i64 (0)] [(0,1),(1,1)]),[.c (.int .i64 (1)),.c (.int .i64 (9))],(some (27,true))⟩,
 oG 30 42 (.call false 99) [28,29] 27 true,
 ⟨(some 31),46,(.bin .eql),[.t 30,.c (.int .i64 (1))],(some (27,true))⟩,
 ⟨(some 32),47,.pick,[.t 27,.t 31,.c (.bool false)],none⟩,
 oT 0 48 .move [32]])
 (.ret))))))
 [.tmp 0] 0 33
def f98.env : Env := [(101,f101.C),(102,f102.C),(99,f99.C)]
def f98.tree (a : Unit) : Prop := ∃ c1 : ByteArray,(f98.s0 = c1)∧True∧∃ c2 : T_agent_Agent × T_agent_Order,(f98.s0 = c2.2.1)∧((1 : Int) = c2.2.2.1.1)∧((0 : Int) = c2.2.2.1.2.1)∧((0 : Int) = c2.2.2.1.2.2)∧((0 : Int) = c2.2.2.2.1.1)∧((0 : Int) = c2.2.2.2.1.2.1)∧((0 : Int) = c2.2.2.2.1.2.2)∧SlQ 0 c2.2.2.2.2.length gnil (gl e_agent_Item c2.2.2.2.2) ((((newA c1).1) = c2.1.1)∧((((newA c1).2.1).1) = c2.1.2.1.1)∧((((newA c1).2.1).2.1) = c2.1.2.1.2.1)∧((((newA c1).2.1).2.2) = c2.1.2.1.2.2)∧SlQ (((newA c1).2.2).length) c2.1.2.2.length (gl e_agent_Item ((newA c1).2.2)) (gl e_agent_Item c2.1.2.2) ((takeA_pre c2)∧Br (((takeA c2).2.1) == (0 : Int)) (Br ((((takeA c2).1).1).toList == f98.s0.toList) (Br ((((((takeA c2).1).2).1) == (1 : Int)) && ((((((takeA c2).1).2).2.1) == (0 : Int)) && (((((takeA c2).1).2).2.2) == (0 : Int)))) (∃ c9 : T_ar3_i64 × T_ar3_i64,((2 : Int) = c9.1.1)∧((0 : Int) = c9.1.2.1)∧((0 : Int) = c9.1.2.2)∧((1 : Int) = c9.2.1)∧((9 : Int) = c9.2.2.1)∧((0 : Int) = c9.2.2.2)∧True∧(((cmpS c9) == (1 : Int)) = (lawTrue a))∧True) ((false = (lawTrue a))∧True)) ((false = (lawTrue a))∧True)) ((false = (lawTrue a))∧True)))
def f98.vc (a : Unit) : Prop := (takeA_pre ((newA (f98.s0)),(f98.s0,((1 : Int),(0 : Int),(0 : Int)),((0 : Int),(0 : Int),(0 : Int)),[]))∧((((takeA ((newA (f98.s0)),(f98.s0,((1 : Int),(0 : Int),(0 : Int)),((0 : Int),(0 : Int),(0 : Int)),[]))).2.1) = (0 : Int)→(((((takeA ((newA (f98.s0)),(f98.s0,((1 : Int),(0 : Int),(0 : Int)),((0 : Int),(0 : Int),(0 : Int)),[]))).1).1) = f98.s0→((((((takeA ((newA (f98.s0)),(f98.s0,((1 : Int),(0 : Int),(0 : Int)),((0 : Int),(0 : Int),(0 : Int)),[]))).1).2).1) = (1 : Int)∧((((takeA ((newA (f98.s0)),(f98.s0,((1 : Int),(0 : Int),(0 : Int)),((0 : Int),(0 : Int),(0 : Int)),[]))).1).2).2.1) = (0 : Int)∧((((takeA ((newA (f98.s0)),(f98.s0,((1 : Int),(0 : Int),(0 : Int)),((0 : Int),(0 : Int),(0 : Int)),[]))).1).2).2.2) = (0 : Int)→(((cmpS (((2 : Int),(0 : Int),(0 : Int)),((1 : Int),(9 : Int),(0 : Int)))) == (1 : Int)) = lawTrue a))∧(¬ (((((takeA ((newA (f98.s0)),(f98.s0,((1 : Int),(0 : Int),(0 : Int)),((0 : Int),(0 : Int),(0 : Int)),[]))).1).2).1) = (1 : Int)∧((((takeA ((newA (f98.s0)),(f98.s0,((1 : Int),(0 : Int),(0 : Int)),((0 : Int),(0 : Int),(0 : Int)),[]))).1).2).2.1) = (0 : Int)∧((((takeA ((newA (f98.s0)),(f98.s0,((1 : Int),(0 : Int),(0 : Int)),((0 : Int),(0 : Int),(0 : Int)),[]))).1).2).2.2) = (0 : Int))→(false = lawTrue a))))∧(¬ ((((takeA ((newA (f98.s0)),(f98.s0,((1 : Int),(0 : Int),(0 : Int)),((0 : Int),(0 : Int),(0 : Int)),[]))).1).1) = f98.s0)→(false = lawTrue a))))∧(¬ (((takeA ((newA (f98.s0)),(f98.s0,((1 : Int),(0 : Int),(0 : Int)),((0 : Int),(0 : Int),(0 : Int)),[]))).2.1) = (0 : Int))→(false = lawTrue a))))
set_option maxRecDepth 100000 in
set_option maxHeartbeats 2000000 in
theorem f98.of (a : Unit) (h : f98.vc a) : f98.tree a := ⟨f98.s0,⟨rfl,⟨trivial,⟨((newA (f98.s0)),(f98.s0,((1 : Int),(0 : Int),(0 : Int)),((0 : Int),(0 : Int),(0 : Int)),[])),⟨rfl,⟨rfl,⟨rfl,⟨rfl,⟨rfl,⟨rfl,⟨rfl,slQ (Rds.nil (enc := e_agent_Item)) (⟨rfl,⟨rfl,⟨rfl,⟨rfl,slQ (Rds.self (enc := e_agent_Item)) (⟨h.1,br h.2 Cnd.eq (fun h3 k19 => br k19 Cnd.seq (fun h5 k16 => br k16 (Cnd.and Cnd.eq (Cnd.and Cnd.eq Cnd.eq)) (fun h7 k13 => ⟨(((2 : Int),(0 : Int),(0 : Int)),((1 : Int),(9 : Int),(0 : Int))),⟨rfl,⟨rfl,⟨rfl,⟨rfl,⟨rfl,⟨rfl,⟨trivial,⟨k13,trivial⟩⟩⟩⟩⟩⟩⟩⟩⟩) (fun h8 k14 => ⟨k14,trivial⟩)) (fun h6 k17 => ⟨k17,trivial⟩)) (fun h4 k20 => ⟨k20,trivial⟩)⟩)⟩⟩⟩⟩)⟩⟩⟩⟩⟩⟩⟩⟩⟩⟩⟩
theorem f98.eq (a : Unit) : (f98.af a).gives f98.env (f98.args a) (f98.blks a) (f98.res a) (f98.blks' a) = f98.tree a := by kernel_rfl
end Go.Abs

/- interregnum/interregnumref03.Fits -/
namespace Go.Abs
open Go
set_option linter.unusedVariables false
def f131.kills (a : T_ar3_i64 × T_ar3_i64) : List Hint := []
def f131.cuts (a : T_ar3_i64 × T_ar3_i64) : List (Nat × Σ β : Type,β→Tm) := []
def f131.af (a : T_ar3_i64 × T_ar3_i64) : AF := AF.mk (.seq (.region [oT 2 0 .box [0],
 oT 3 1 .box [1],
 ⟨(some 4),2,.move,[.c (.bool false)],none⟩])
 (.seq (.region [⟨(some 5),3,(.indexAddr 1 (some 3)),[.t 2,.c (.int .i64 (0))],none⟩,
 oT 6 4 (.load false 1) [5],
 ⟨(some 7),5,(.indexAddr 1 (some 3)),[.t 3,.c (.int .i64 (0))],none⟩,
 oT 8 6 (.load false 1) [7],
 oT 9 7 (.bin .leq) [6,8],
 oT 10 8 .move [9],
 ⟨(some 11),9,(.indexAddr 1 (some 3)),[.t 2,.c (.int .i64 (1))],(some (10,true))⟩,
 oG 12 10 (.load false 1) [11] 10 true,
 ⟨(some 13),11,(.indexAddr 1 (some 3)),[.t 3,.c (.int .i64 (1))],(some (10,true))⟩,
 oG 14 12 (.load false 1) [13] 10 true,
 oG 15 13 (.bin .leq) [12,14] 10 true,
 ⟨(some 16),14,.pick,[.t 10,.t 15,.c (.bool false)],none⟩,
 oT 17 15 .move [16],
 ⟨(some 18),16,(.indexAddr 1 (some 3)),[.t 2,.c (.int .i64 (2))],(some (17,true))⟩,
 oG 19 17 (.load false 1) [18] 17 true,
 ⟨(some 20),18,(.indexAddr 1 (some 3)),[.t 3,.c (.int .i64 (2))],(some (17,true))⟩,
 oG 21 19 (.load false 1) [20] 17 true,
 oG 22 20 (.bin .leq) [19,21] 17 true,
 ⟨(some 23),21,.pick,[.t 17,.t 22,.c (.bool false)],none⟩,
 oT 4 22 .move [23]])
 (.ret)))
 [.tmp 4] 0 22
def f131.env : Env := []
def f131.tree (a : T_ar3_i64 × T_ar3_i64) : Prop := Br (decide (a.1.1≤a.2.1)) (Br (decide (a.1.2.1≤a.2.2.1)) (((decide (a.1.2.2≤a.2.2.2)) = (fitsR a))∧True) ((false = (fitsR a))∧True)) ((false = (fitsR a))∧True)
def f131.vc (a : T_ar3_i64 × T_ar3_i64) : Prop := ((a.1.1≤a.2.1→((a.1.2.1≤a.2.2.1→(decide (a.1.2.2≤a.2.2.2) = fitsR a))∧(¬ (a.1.2.1≤a.2.2.1)→(false = fitsR a))))∧(¬ (a.1.1≤a.2.1)→(false = fitsR a)))
set_option maxRecDepth 100000 in
set_option maxHeartbeats 2000000 in
theorem f131.of (a : T_ar3_i64 × T_ar3_i64) (h : f131.vc a) : f131.tree a := br h Cnd.dec (fun h1 k10 => br k10 Cnd.dec (fun h3 k7 => ⟨k7,trivial⟩) (fun h4 k8 => ⟨k8,trivial⟩)) (fun h2 k11 => ⟨k11,trivial⟩)
theorem f131.eq (a : T_ar3_i64 × T_ar3_i64) : (f131.af a).gives f131.env (f131.args a) (f131.blks a) (f131.res a) (f131.blks' a) = f131.tree a := by kernel_rfl
end Go.Abs

/- Orders for an agent: what the code asks is so. -/
namespace Go.Abs
open Go

theorem f131.ok (a : TRes × TRes) (_ : True) : f131.vc a := by
  have hb : ¬ (a.1.1 ≤ a.2.1 ∧ a.1.2.1 ≤ a.2.2.1 ∧ a.1.2.2 ≤ a.2.2.2) → false = fitsR a := fun h => (decide_eq_false h).symm
  refine ⟨fun c1 => ⟨fun c2 => ?_,fun c2 => hb fun h => c2 h.2.1⟩,fun c1 => hb fun h => c1 h.1⟩
  unfold fitsR
  by_cases c3 : a.1.2.2 ≤ a.2.2.2
  · rw [decide_eq_true c3,decide_eq_true ⟨c1,c2,c3⟩]
  · rw [decide_eq_false c3,decide_eq_false (fun h => c3 h.2.2)]

theorem f135.ok (a : Int) (h : True) : f135.vc a := by
  unfold f135.vc
  simp

theorem f130.ok (a : Int × Int) (h : True) : f130.vc a := by
  obtain ⟨x,y⟩ := a
  unfold f130.vc cmpI
  simp only
  refine ⟨fun c => Bool.noConfusion c,fun _ => ⟨fun c => Bool.noConfusion c,fun _ => ⟨fun c => ?_,fun c => ⟨fun c2 => ?_,fun c2 => ?_⟩⟩⟩⟩
  · rw [if_pos c]
  · rw [if_neg c,if_pos c2]
  · rw [if_neg c,if_neg c2]

theorem f120.ok (a : List Int × List Int) (h : cmpLs_pre a) : f120.vc a := by
  obtain ⟨l,m⟩ := a
  obtain ⟨h1,h2⟩ := h
  have h1 : l.length ≤ 1048576 := h1
  have h2 : m.length ≤ 1048576 := h2
  refine ⟨fun i => 0 ≤ i ∧ i ≤ (l.length : Int) ∧ i ≤ (m.length : Int) ∧ cmpL (l.drop i.toNat) (m.drop i.toNat) = cmpLs (l,m),fun i => l.length - i.toNat,⟨by omega,by simp,by simp,by simp [cmpLs]⟩,fun i hi => ?_⟩
  obtain ⟨g0,g1,g2,g3⟩ := hi
  simp only at *
  refine ⟨fun hlt => ⟨g0,hlt,fun c => ?_,fun c => ⟨g0,by omega,fun d => ?_,fun d => ⟨by omega,by omega,⟨by omega,by omega,by omega,?_⟩,by omega⟩⟩⟩,fun hge => ⟨fun c => ?_,fun c => ?_⟩⟩
  · have hm : m.drop i.toNat = [] := List.drop_of_length_le (by omega)
    rw [← g3,drop_at g0 hlt,hm]
    rfl
  · rw [← g3,drop_at g0 hlt,drop_at (l := m) g0 (by omega),cmpL,if_pos d]
  · rw [drop_at g0 hlt,drop_at (l := m) g0 (by omega),cmpL,if_neg d] at g3
    exact g3
  · have hl : l.drop i.toNat = [] := List.drop_of_length_le (by omega)
    rw [← g3,hl,drop_at (l := m) g0 (by omega)]
    rfl
  · have hl : l.drop i.toNat = [] := List.drop_of_length_le (by omega)
    have hm : m.drop i.toNat = [] := List.drop_of_length_le (by omega)
    rw [← g3,hl,hm]
    rfl

theorem f99.ok (a : TRes × TRes) (h : True) : f99.vc a := by
  obtain ⟨⟨a1,a2,a3⟩,b1,b2,b3⟩ := a
  refine ⟨⟨by simp [L20],by simp [L20]⟩,?_⟩
  simp only [cmpLs,cmpL,cmpS]
  split
  · rfl
  · split
    · rfl
    · by_cases h : cmpI (a3,b3) = 0
      · rw [if_neg (not_not_intro h),h]
      · rw [if_pos h]

theorem f123.ok (a : TRes × TRes) (h : True) : f123.vc a := by
  obtain ⟨⟨a1,a2,a3⟩,b1,b2,b3⟩ := a
  unfold f123.vc cmpS cmpI
  simp only
  refine ⟨fun c => ?_,fun c => ⟨fun c2 => ?_,fun c2 => ⟨fun c3 => ?_,fun c3 => ⟨fun c4 => ?_,fun c4 => ⟨fun c5 => ?_,fun c5 => ⟨fun c6 => ?_,fun c6 => ?_⟩⟩⟩⟩⟩⟩ <;> simp [*]

theorem f121.ok (a : List TItem) (h : L20 a) : f121.vc a := by
  have h : a.length ≤ 1048576 := h
  refine ⟨fun c => ⟨?_,by omega,rfl⟩,fun _ => ⟨by omega,rfl⟩⟩
  rw [List.length_eq_zero_iff.1 c]
  rfl

theorem f101.ok (a : ByteArray) (h : True) : f101.vc a := rfl
theorem f107.ok (a : TAg) (h : True) : f107.vc a := rfl
theorem f102.ok (a : TAg × TOrd) (h : takeA_pre a) : f102.vc a := by
  unfold f102.vc takeA
  refine ⟨h,fun c => ?_,fun c => ⟨fun c2 => ?_,fun c2 => ⟨fun c3 => ?_,fun c3 => ⟨h.2.1,?_⟩⟩⟩⟩
  · rw [if_pos (fun hh => c hh.1)]
  · rw [if_pos (fun hh => c2 hh.2)]
  · rw [if_neg (not_not_intro (And.intro (Classical.not_not.1 c) (Classical.not_not.1 c2))),if_pos c3]; rfl
  · rw [if_neg (not_not_intro (And.intro (Classical.not_not.1 c) (Classical.not_not.1 c2))),if_neg c3]; rfl

theorem take_at' {α : Type} [Inhabited α] {l : List α} {i : Int} (h0 : 0 ≤ i) (h : i < (l.length : Int)) : l.take (i + 1).toNat = l.take i.toNat ++ [at_ l i] := by
  have hl : i.toNat < l.length := by omega
  rw [show (i + 1).toNat = i.toNat + 1 from by omega,List.take_succ_eq_append_getElem hl]
  simp [at_,hl]

theorem f103.ok (a : TOrd) (h : ord_pre a) : f103.vc a := by
  obtain ⟨n,⟨s1,s2,s3⟩,⟨c1,c2,c3⟩,l⟩ := a
  have hl : l.length ≤ 1048576 := h.2.1
  refine ⟨fun y => (0 ≤ y.1 ∧ y.1 ≤ (l.length : Int)) ∧ y.2 = (n,s1,s2,s3,c1,c2,c3,l.take y.1.toNat),fun y => l.length - y.1.toNat,⟨by simp,by simp⟩,fun y hy => ?_⟩
  obtain ⟨i,y⟩ := y
  simp only at hy
  obtain ⟨⟨g0,g1⟩,rfl⟩ := hy
  simp only at *
  refine ⟨fun hlt => ⟨g0,hlt,by rw [List.length_take]; omega,by omega,by omega,⟨⟨by omega,by omega⟩,?_⟩,by omega⟩,fun hge => ?_⟩
  · rw [take_at' g0 hlt]
  · rw [List.take_of_length_le (by omega)]
    rfl

theorem f105.ok (a : List TItem × List TItem) (h : sameI_pre a) : f105.vc a := by
  obtain ⟨l,m⟩ := a
  have h1 : l.length ≤ 1048576 := h.1
  have no : ¬ l = m → false = sameI (l,m) := fun h => (decide_eq_false h).symm
  refine ⟨fun c => no fun e => c (by rw [e]),fun c => ⟨fun i => 0 ≤ i ∧ i ≤ (l.length : Int) ∧ l.take i.toNat = m.take i.toNat,fun i => l.length - i.toNat,⟨by omega,by simp,by simp⟩,fun i hi => ?_⟩⟩
  obtain ⟨g0,g1,g2⟩ := hi
  have c := Classical.not_not.1 c
  simp only at *
  refine ⟨fun hlt => ⟨g0,hlt,g0,by omega,fun d => no fun e => d (by rw [e]; simp),fun d => ⟨by omega,by omega,⟨by omega,by omega,?_⟩,by omega⟩⟩,fun hge => ?_⟩
  · obtain ⟨d1,d2,d3,d4,d5,d6⟩ := Classical.not_not.1 d
    rw [take_at' g0 hlt,take_at' (l := m) g0 (by omega),g2]
    congr 2
    exact Prod.ext d1 (Prod.ext d2 (Prod.ext d3 (Prod.ext d4 (Prod.ext d5 d6))))
  · rw [List.take_of_length_le (by omega),List.take_of_length_le (by omega)] at g2
    exact (decide_eq_true g2).symm

theorem few24_iff {l : List TOrd} : few24 l = true ↔ l.length ≤ 60 ∧ ∀ o ∈ l,(o.2.2.2.length ≤ 60 ∧ o.1.size ≤ 1000) ∧ ∀ x ∈ o.2.2.2,x.1.size ≤ 1000 := by
  simp [few24,List.all_eq_true]

theorem f100.ok (a : List TOrd) (h : few24_pre a) : f100.vc a := by
  have h1 : a.length ≤ 1048576 := h.1
  have no : ¬ few24 a = true → false = few24 a := fun h => (Bool.eq_false_iff.2 h).symm
  refine ⟨fun c => no fun hh => by have := (few24_iff.1 hh).1; omega,fun c => ?_⟩
  refine ⟨fun i => 0 ≤ i ∧ i ≤ (a.length : Int) ∧ ∀ o ∈ a.take i.toNat,(o.2.2.2.length ≤ 60 ∧ o.1.size ≤ 1000) ∧ ∀ x ∈ o.2.2.2,x.1.size ≤ 1000,fun i => a.length - i.toNat,⟨by omega,by simp,by simp⟩,fun i hi => ?_⟩
  obtain ⟨g0,g1,g2⟩ := hi
  simp only at *
  refine ⟨fun hlt => ⟨g0,hlt,fun d => no fun hh => ?_,fun d => ⟨g0,hlt,fun e => no fun hh => ?_,fun e => ⟨g0,hlt,?_⟩⟩⟩,fun hge => ?_⟩
  · have := ((few24_iff.1 hh).2 _ (at_mem g0 hlt)).1.1; omega
  · have := ((few24_iff.1 hh).2 _ (at_mem g0 hlt)).1.2; omega
  · have hL : ((at_ a i).2.2.2).length ≤ 60 := by omega
    refine ⟨fun y => (y.1 = i ∧ y.2.1 = i ∧ y.2.2.1 = ((at_ a i).2.2.2.length : Int)) ∧ 0 ≤ y.2.2.2 ∧ y.2.2.2 ≤ ((at_ a i).2.2.2.length : Int) ∧ ∀ x ∈ (at_ a i).2.2.2.take y.2.2.2.toNat,x.1.size ≤ 1000,
      fun y => (at_ a i).2.2.2.length - y.2.2.2.toNat,⟨⟨rfl,rfl,rfl⟩,Int.le_refl _,by simp,by simp⟩,fun y hy => ?_⟩
    obtain ⟨y1,y2,y3,k⟩ := y
    simp only at hy
    obtain ⟨⟨e1,e2,e3⟩,k0,k1,k2⟩ := hy
    subst e1 e2 e3
    simp only at *
    refine ⟨fun kl => ⟨g0,hlt,k0,kl,fun f => no fun hh => ?_,fun f => ⟨by omega,by omega,⟨⟨trivial,trivial,trivial⟩,by omega,by omega,?_⟩,by omega⟩⟩,fun kg => ⟨by omega,by omega,⟨by omega,by omega,?_⟩,by omega⟩⟩
    · have := ((few24_iff.1 hh).2 _ (at_mem g0 hlt)).2 _ (at_mem k0 kl); omega
    · intro x hx
      rw [take_at' k0 kl,List.mem_append,List.mem_singleton] at hx
      rcases hx with hx | rfl
      · exact k2 x hx
      · omega
    · intro o ho
      rw [take_at' g0 hlt,List.mem_append,List.mem_singleton] at ho
      rcases ho with ho | rfl
      · exact g2 o ho
      · refine ⟨⟨hL,by omega⟩,fun x hx => k2 x ?_⟩
        rw [List.take_of_length_le (by omega)]
        exact hx
  · rw [List.take_of_length_le (by omega)] at g2
    exact (few24_iff.2 ⟨by omega,g2⟩).symm

theorem f98.ok (a : Unit) (h : True) : f98.vc a := by
  have hn : ordB (f98.s0,((1 : Int),(0 : Int),(0 : Int)),((0 : Int),(0 : Int),(0 : Int)),([] : List TItem)) = true := by decide +kernel
  have e : takeA ((newA (f98.s0)),(f98.s0,((1 : Int),(0 : Int),(0 : Int)),((0 : Int),(0 : Int),(0 : Int)),[])) = ((f98.s0,((1 : Int),(0 : Int),(0 : Int))),0,(f98.s0,((1 : Int),(0 : Int),(0 : Int)),[])) := by
    have hc : ¬ cmpS (((1 : Int),(0 : Int),(0 : Int)),(newA f98.s0).2.1) < 0 := by decide +kernel
    unfold takeA
    rw [if_neg (not_not_intro ⟨hn,rfl⟩),if_neg hc]
    rfl
  unfold f98.vc
  rw [e]
  refine ⟨⟨show f98.s0.size ≤ 1073741824 by decide +kernel,⟨Nat.zero_le _,fun x hx => absurd hx List.not_mem_nil⟩⟩,fun _ => ⟨fun _ => ⟨fun _ => ?_,fun c => absurd ⟨rfl,rfl,rfl⟩ c⟩,fun c => absurd rfl c⟩,fun c => absurd rfl c⟩
  show ((cmpS (((2 : Int),(0 : Int),(0 : Int)),((1 : Int),(9 : Int),(0 : Int)))) == (1 : Int)) = true
  decide +kernel

theorem mset_in {l : List (ByteArray × Unit)} {k : ByteArray} (h : k ∈ l.map (·.1)) : mset l k () = l := by
  induction l with
  | nil => simp at h
  | cons x l ih =>
    obtain ⟨a,u⟩ := x
    simp only [mset]
    split
    · rename_i e; subst e; rfl
    · rename_i e
      rw [ih (by simpa [Ne.symm e,eq_comm] using h)]

theorem mset_out {α : Type} {l : List (ByteArray × α)} {k : ByteArray} {v : α} (h : k ∉ l.map (·.1)) : mset l k v = l ++ [(k,v)] := by
  induction l with
  | nil => rfl
  | cons x l ih =>
    obtain ⟨a,u⟩ := x
    simp only [List.map_cons,List.mem_cons,not_or] at h
    simp only [mset]
    rw [if_neg (fun e => h.1 e.symm),ih h.2]
    rfl

def Keyd (m : List (ByteArray × Unit)) (K : List ByteArray) : Prop := (∀ k,k ∈ m.map (·.1) ↔ k ∈ K) ∧ (K.Nodup → m.length = K.length) ∧ (¬ K.Nodup → m.length < K.length)

theorem keyd_nil : Keyd [] [] := ⟨fun k => by simp,fun _ => rfl,fun h => absurd List.nodup_nil h⟩

theorem keyd_step {m : List (ByteArray × Unit)} {K : List ByteArray} (h : Keyd m K) (k : ByteArray) : Keyd (mset m k ()) (K ++ [k]) := by
  obtain ⟨h1,h2,h3⟩ := h
  have hle : m.length ≤ K.length := by
    by_cases hn : K.Nodup
    · rw [h2 hn]; exact Nat.le_refl _
    · exact Nat.le_of_lt (h3 hn)
  by_cases hk : k ∈ m.map (·.1)
  · rw [mset_in hk]
    have hk' := (h1 k).1 hk
    have hnd : ¬ (K ++ [k]).Nodup := fun hn => by
      have := (List.nodup_append.1 hn).2.2 k hk' k (by simp)
      exact this rfl
    refine ⟨fun q => ?_,fun hn => absurd hn hnd,fun _ => by rw [List.length_append]; simp; omega⟩
    rw [h1 q,List.mem_append,List.mem_singleton]
    exact ⟨.inl,fun h => h.elim id fun e => e ▸ hk'⟩
  · rw [mset_out hk]
    have hk' : k ∉ K := fun h => hk ((h1 k).2 h)
    have hnd : (K ++ [k]).Nodup ↔ K.Nodup := by
      rw [List.nodup_append]
      constructor
      · exact fun h => h.1
      · exact fun h => ⟨h,by simp,fun x hx y hy e => by rw [List.mem_singleton] at hy; subst hy; exact hk' (e ▸ hx)⟩
    refine ⟨fun q => by simp [h1 q],fun hn => ?_,fun hn => ?_⟩
    · rw [List.length_append,List.length_append,h2 (hnd.1 hn)]; rfl
    · have := h3 (fun h => hn (hnd.2 h))
      rw [List.length_append,List.length_append]
      simpa using this

theorem needs_step {l : List TItem} {i : Int} (h0 : 0 ≤ i) (h : i < (l.length : Int)) : needs (l.take (i + 1).toNat) = needs (l.take i.toNat) ++ [(at_ l i).2.2.2] := by
  rw [take_at' h0 h]
  simp [needs]

theorem ord_false {o : TOrd} (h : ¬ (nameB o.1 = true ∧ rightB o.2.2.1 = true ∧ seqB 0 o.2.2.2 = true ∧ (o.2.2.2.map (·.1)).Nodup ∧ (sumR (needs o.2.2.2)).2 = 0 ∧ fitsR ((sumR (needs o.2.2.2)).1,o.2.2.1) = true)) : false = ordB o := by
  refine (Bool.eq_false_iff.2 fun hh => h ?_).symm
  simpa [ordB,and_assoc] using hh

theorem seq_cons {last : Int} {x : TItem} {l : List TItem} : seqB last (x :: l) = true ↔ nameB x.1 = true ∧ last < x.2.1 ∧ 1 ≤ x.2.2.1 ∧ seqB x.2.1 l = true := by
  simp [seqB,and_assoc]

theorem f108.ok (a : TOrd) (h : ord_pre a) : f108.vc a := by
  obtain ⟨n,s,c,l⟩ := a
  have hl : l.length ≤ 1048576 := h.2.1
  unfold f108.vc
  refine ⟨h.1,fun c1 => ord_false fun hh => c1 hh.1,fun c1 => ⟨fun c2 => ord_false fun hh => c2 hh.2.1,fun c2 => ?_⟩⟩
  have c1 := Classical.not_not.1 c1
  have c2 := Classical.not_not.1 c2
  refine ⟨fun y => (0 ≤ y.2.2.1 ∧ y.2.2.1 ≤ (l.length : Int)) ∧ y.1 = needs (l.take y.2.2.1.toNat) ∧ seqB y.2.1 (l.drop y.2.2.1.toNat) = seqB 0 l ∧ Keyd y.2.2.2 ((l.take y.2.2.1.toNat).map (·.1)),fun y => l.length - y.2.2.1.toNat,
    ⟨by simp,rfl,rfl,keyd_nil⟩,fun y hy => ?_⟩
  obtain ⟨ns,last,i,m⟩ := y
  simp only at hy
  obtain ⟨⟨g0,g1⟩,rfl,g3,g4⟩ := hy
  simp only at *
  have hlen : (needs (l.take i.toNat)).length = i.toNat := by simp [needs]; omega
  refine ⟨fun hlt => ⟨g0,hlt,h.2.2 _ (at_mem g0 hlt),fun d => ord_false fun hh => ?_,fun d => ⟨fun e => ord_false fun hh => ?_,fun e => ⟨fun f => ord_false fun hh => ?_,fun f => ⟨by omega,by omega,by omega,⟨by omega,?_,?_,?_⟩,by omega⟩⟩⟩⟩,fun hge => ?_⟩
  · rw [← g3,drop_at g0 hlt,seq_cons] at hh
    exact d hh.2.2.1.1
  · rw [← g3,drop_at g0 hlt,seq_cons] at hh
    have := hh.2.2.1.2.1
    omega
  · rw [← g3,drop_at g0 hlt,seq_cons] at hh
    have := hh.2.2.1.2.2.1
    omega
  · rw [needs_step g0 hlt]
  · rw [← g3,drop_at g0 hlt]
    have d := Classical.not_not.1 d
    simp only [seqB,d,Bool.true_and]
    rw [decide_eq_true (show last < (at_ l i).2.1 by omega),decide_eq_true (show 1 ≤ (at_ l i).2.2.1 by omega)]
    simp
  · rw [take_at' g0 hlt,List.map_append]
    exact keyd_step g4 _
  · have hi : i.toNat = l.length := by omega
    rw [hi,List.drop_length] at g3
    rw [hi,List.take_length] at g4 ⊢
    have g3 : seqB 0 l = true := g3.symm
    obtain ⟨_,k2,k3⟩ := g4
    rw [List.length_map] at k2 k3
    refine ⟨by show (needs l).length ≤ 1048576; simp [needs]; omega,fun d => ⟨fun e => ?_,fun e => ord_false fun hh => e ?_⟩,fun d => ord_false fun hh => d hh.2.2.2.2.1⟩
    · have hnd : (l.map (·.1)).Nodup := by
        by_cases hn : (l.map (·.1)).Nodup
        · exact hn
        · have := k3 hn
          omega
      have : ordB (n,s,c,l) = fitsR ((sumR (needs l)).1,c) := by
        unfold ordB
        simp only
        rw [c1,c2,g3,decide_eq_true hnd,decide_eq_true d]
        rfl
      exact this.symm
    · rw [k2 hh.2.2.2.1]

theorem share {c a1 a2 a3 a4 D F E r : Prop} (h : c → a1 ∧ a2 ∧ a3 ∧ a4 ∧ (D → F) ∧ (¬ D → r)) (h' : ¬ c → r) (e : r → E) : (c → a1 ∧ a2 ∧ a3 ∧ a4 ∧ (D → F) ∧ (¬ D → E)) ∧ (¬ c → E) :=
  ⟨fun hc => let ⟨h1,h2,h3,h4,h5,h6⟩ := h hc; ⟨h1,h2,h3,h4,h5,fun hd => e (h6 hd)⟩,fun hc => e (h' hc)⟩

def lastOf (l : List TItem) (i : Int) : Int := if 0 < i then (at_ l (i - 1)).2.1 else 0

theorem f122.ok (a : TOrd) (h : ord_pre a) : f122.vc a := by
  obtain ⟨n,s,c,l⟩ := a
  have hl : l.length ≤ 1048576 := h.2.1
  unfold f122.vc
  refine ⟨h.1,fun c1 => ord_false fun hh => c1 hh.1,fun c1 => ⟨fun c2 => ord_false fun hh => c2 hh.2.1,fun c2 => ?_⟩⟩
  have c1 := Classical.not_not.1 c1
  have c2 := Classical.not_not.1 c2
  refine ⟨fun y => (0 ≤ y.2 ∧ y.2 ≤ (l.length : Int)) ∧ y.1 = needs (l.take y.2.toNat) ∧ 0 ≤ lastOf l y.2 ∧ seqB (lastOf l y.2) (l.drop y.2.toNat) = seqB 0 l ∧ ((l.take y.2.toNat).map (·.1)).Nodup,fun y => l.length - y.2.toNat,
    ⟨by simp,rfl,by simp [lastOf],by simp [lastOf],by simp⟩,fun y hy => ?_⟩
  obtain ⟨ns,i⟩ := y
  simp only at hy
  obtain ⟨⟨g0,g1⟩,rfl,g2,g3,g4⟩ := hy
  simp only at *
  have hlen : (needs (l.take i.toNat)).length = i.toNat := by simp [needs]; omega
  refine ⟨fun hlt => ⟨g0,hlt,h.2.2 _ (at_mem g0 hlt),fun d => ord_false fun hh => ?_,fun d => ⟨fun e => ord_false fun hh => ?_,fun e => ⟨fun f => ord_false fun hh => ?_,fun f => ?_⟩⟩⟩,fun hge => ?_⟩
  · rw [← g3,drop_at g0 hlt,seq_cons] at hh
    exact d hh.2.2.1.1
  · rw [← g3,drop_at g0 hlt,seq_cons] at hh
    have := hh.2.2.1.2.1
    omega
  · rw [← g3,drop_at g0 hlt,seq_cons] at hh
    have := hh.2.2.1.2.2.1
    omega
  · have d := Classical.not_not.1 d
    refine share (r := lastOf l i < (at_ l i).2.1) (fun k => ⟨by omega,by omega,by omega,by omega,fun q => ord_false fun hh => ?_,fun q => ?_⟩) (fun k => ?_) fun hs => ?_
    · rw [← g3,drop_at g0 hlt,seq_cons] at hh
      have := hh.2.2.1.2.1
      rw [lastOf,if_pos k] at this
      omega
    · rw [lastOf,if_pos k]; omega
    · rw [lastOf,if_neg k]; omega
    · refine ⟨fun y => (0 ≤ y.2.2.1 ∧ y.2.2.1 ≤ i ∧ ∀ j : Int,0 ≤ j → j < y.2.2.1 → (at_ l j).1 ≠ (at_ l i).1) ∧ y = (needs (l.take i.toNat),i,y.2.2.1,i,(at_ l i).1,(at_ l i).2.1,(at_ l i).2.2.1,((at_ l i).2.2.2).1,((at_ l i).2.2.2).2.1,((at_ l i).2.2.2).2.2),
        fun y => i.toNat - y.2.2.1.toNat,⟨⟨Int.le_refl _,g0,fun j h1 h2 => by simp only at h2; omega⟩,rfl⟩,fun y hy => ?_⟩
      obtain ⟨⟨k0,k1,k2⟩,e⟩ := hy
      generalize y.2.2.1 = k at k0 k1 k2 e
      subst e
      simp only
      refine ⟨fun kl => ⟨k0,by omega,fun q => ord_false fun hh => ?_,fun q => ⟨by omega,by omega,⟨⟨by omega,by omega,fun j h1 h2 => ?_⟩,trivial⟩,by omega⟩⟩,fun kg => ⟨by omega,by omega,by omega,⟨⟨by omega,by omega⟩,?_,?_,?_,?_⟩,by omega⟩⟩
      · have hnd := hh.2.2.2.1
        have hk' : k.toNat < l.length := by omega
        have hi' : i.toNat < l.length := by omega
        refine List.pairwise_iff_getElem.1 hnd k.toNat i.toNat (by simpa using hk') (by simpa using hi') (by omega) ?_
        simpa [at_,hk',hi'] using q
      · by_cases hj : j = k
        · subst hj; exact q
        · exact k2 j h1 (by omega)
      · rw [needs_step g0 hlt]
      · rw [lastOf,if_pos (by omega),show i + 1 - 1 = i from by omega]
        omega
      · rw [← g3,drop_at g0 hlt,show lastOf l (i + 1) = (at_ l i).2.1 by rw [lastOf,if_pos (by omega),show i + 1 - 1 = i from by omega]]
        simp only [seqB,d,Bool.true_and]
        rw [decide_eq_true hs,decide_eq_true (show 1 ≤ (at_ l i).2.2.1 by omega)]
        simp
      · rw [take_at' g0 hlt,List.map_append,List.nodup_append]
        refine ⟨g4,by simp,fun x hx y hy e => ?_⟩
        simp only [List.map_cons,List.map_nil,List.mem_singleton] at hy
        subst hy
        subst e
        obtain ⟨z,hz,hz2⟩ := List.mem_map.1 hx
        obtain ⟨j,hj,rfl⟩ := List.mem_iff_getElem.1 hz
        rw [List.length_take] at hj
        refine k2 (j : Int) (by omega) (by omega) ?_
        have : j < l.length := by omega
        rw [← hz2]
        simp [at_,this]
  · have hi : i.toNat = l.length := by omega
    rw [hi,List.drop_length] at g3
    rw [hi,List.take_length] at g4 ⊢
    have g3 : seqB 0 l = true := g3.symm
    refine ⟨by show (needs l).length ≤ 1048576; simp [needs]; omega,fun d => ?_,fun d => ord_false fun hh => d hh.2.2.2.2.1⟩
    have : ordB (n,s,c,l) = fitsR ((sumR (needs l)).1,c) := by
      unfold ordB
      simp only
      rw [c1,c2,g3,decide_eq_true g4,decide_eq_true d]
      rfl
    exact this.symm
end Go.Abs
