/- Functions, and what the code asks of them: PAgent2. -/
import Derived.KernelRfl
import Derived.Test.YtabnaedcnfkmiadBc41c1e0a
import Derived.Test.YtabnaedcnfkmiadB8cd9c866
import Derived.Test.YtabnaedcnfkmiadBa212655c
import Derived.Test.YtabnaedcnfkmiadB8cf22718
import Derived.Test.YtabnaedcnfkmiadBa628de06
import Derived.Test.YtabnaedcnfkmiadB30b1f4ec
set_option linter.unusedVariables false
set_option linter.unusedSimpArgs false
/- States,and the orders that they tell. -/
namespace Go.Abs
open Go

abbrev TState := Int × Int × List TMach × List TQueue × List TJob
def machAt (s : TState) (i : Nat) : TMach := s.2.2.1.getD i default
def queueAt (s : TState) (i : Nat) : TQueue := s.2.2.2.1.getD i default
def jobAt (s : TState) (i : Nat) : TJob := s.2.2.2.2.getD i default
def machOk (s : TState) (i : Nat) : Bool :=
  nodeB (machAt s i).1 && decide (0 ≤ (machAt s i).2.2 ∧ (machAt s i).2.2 ≤ 1073741828) && slt (if i = 0 then ByteArray.empty else (machAt s (i - 1)).1.1) (machAt s i).1.1 && decide ((freeR (machAt s i,s.2.2.2.2)).2 = 0)
def queueOk (s : TState) (i : Nat) : Bool :=
  queueB (queueAt s i) && slt (if i = 0 then ByteArray.empty else (queueAt s (i - 1)).1) (queueAt s i).1 && decide ((usedR (s.2.2.2.2,(queueAt s i).1)).2 = 0) && fitsR ((usedR (s.2.2.2.2,(queueAt s i).1)).1,(queueAt s i).2)
def machR (a : TState × ByteArray) : Int := match a.1.2.2.1.findIdx? fun m => decide (m.1.1 = a.2) with
  | some i => i
  | none => -1
def queueR (a : TState × ByteArray) : Int := match a.1.2.2.2.1.findIdx? fun q => decide (q.1 = a.2) with
  | some i => i
  | none => -1
def ixMach (a : List TMach × ByteArray) : Int := match a.1.findIdx? fun m => decide (m.1.1 = a.2) with
  | some i => i
  | none => -1
def ixQueue (a : List TQueue × ByteArray) : Int := match a.1.findIdx? fun q => decide (q.1 = a.2) with
  | some i => i
  | none => -1
def isMach (a : TMach × ByteArray) : Bool := decide (a.1.1.1 = a.2)
def isQueue (a : TQueue × ByteArray) : Bool := decide (a.1.1 = a.2)
def bothAt (s : TState) (i k : Nat) : Bool := decide (k ≠ i ∧ (jobAt s k).2.2.1 = (jobAt s i).2.2.1 ∧ ¬ (jobAt s i).1.2.2.2.2.2.1 = ByteArray.empty ∧ (jobAt s k).1.2.2.2.2.2.1 = (jobAt s i).1.2.2.2.2.2.1)
def standsN (s : TState) (i : Nat) : Bool :=
  decide (0 ≤ machR (s,(jobAt s i).2.2.1)) && (machAt s (machR (s,(jobAt s i).2.2.1)).toNat).2.1 && decide (1 ≤ (jobAt s i).2.2.2) && hasAll ((machAt s (machR (s,(jobAt s i).2.2.1)).toNat).1.2.2,(jobAt s i).1.2.2.2.2.1) &&
    (List.range s.2.2.2.2.length).all fun k => !bothAt s i k
def standsB (a : TState × Int) : Bool := standsN a.1 a.2.toNat
def jobOk (s : TState) (i : Nat) : Bool :=
  taskB (jobAt s i).1 && decide ((if i = 0 then 0 else (jobAt s (i - 1)).2.1) < (jobAt s i).2.1 ∧ (jobAt s i).2.1 < s.2.1 ∧ 0 ≤ (jobAt s i).2.2.2 ∧ (jobAt s i).2.2.2 ≤ 1099511627776) &&
    decide (findR (s.2.2.2.2,(jobAt s i).1.1) = (i : Int) ∧ 0 ≤ queueR (s,(jobAt s i).1.2.1)) && (decide ((jobAt s i).2.2.1 = ByteArray.empty) || standsN s i)
def machsB (s : TState) : Bool := ((List.range s.2.2.1.length).all (machOk s)) && decide (s.2.2.1.length ≤ 16)
def queuesB (s : TState) : Bool := ((List.range s.2.2.2.1.length).all (queueOk s)) && decide (s.2.2.2.1.length ≤ 8)
def jobsB (s : TState) : Bool := ((List.range s.2.2.2.2.length).all (jobOk s)) && decide (s.2.2.2.2.length ≤ 48)
def stateB (s : TState) : Bool := decide (0 ≤ s.1 ∧ s.1 ≤ 1073741824 ∧ 1 ≤ s.2.1 ∧ s.2.1 ≤ 1073741824) && machsB s && queuesB s && jobsB s
def mach_pre (m : TMach) : Prop := node_pre m.1 ∧ L20 m.1.2.2
def job_pre (j : TJob) : Prop := task_pre j.1 ∧ L20 j.1.2.2.2.2.1 ∧ name_pre j.2.2.1
def state_pre (s : TState) : Prop := (L20 s.2.2.1 ∧ ∀ m ∈ s.2.2.1,mach_pre m) ∧ (L20 s.2.2.2.1 ∧ ∀ q ∈ s.2.2.2.1,queue_pre q) ∧ L20 s.2.2.2.2 ∧ ∀ j ∈ s.2.2.2.2,job_pre j
def machR_pre (a : TState × ByteArray) : Prop := state_pre a.1
def stands_pre (a : TState × Int) : Prop := state_pre a.1 ∧ 0 ≤ a.2 ∧ a.2 < (a.1.2.2.2.2.length : Int)
def ofItems (jobs : List TJob) (n : ByteArray) : List TItem := (jobs.filter fun j => decide (j.2.2.1 = n)).map fun j => (j.1.1,j.2.1,j.2.2.2,j.1.2.2.2.1)
def ofA (a : TState × ByteArray × TRes) : TOrd × Int :=
  if ¬ stateB a.1 = true then ((ByteArray.empty,(0,0,0),(0,0,0),[]),1) else
  if machR (a.1,a.2.1) < 0 then ((ByteArray.empty,(0,0,0),(0,0,0),[]),7) else
  ((a.2.1,a.2.2,(machAt a.1 (machR (a.1,a.2.1)).toNat).1.2.1,ofItems a.1.2.2.2.2 a.2.1),0)
def of_pre (a : TState × ByteArray × TRes) : Prop := state_pre a.1
end Go.Abs

-- interregnum/agent.Of$1
namespace Go.Abs
open Go
def f358.args (a : T_api_Machine × ByteArray) : List D := [.agg [.str a.1.1.1,.int .i64 a.1.1.2.1.1,.int .i64 a.1.1.2.1.2.1,.int .i64 a.1.1.2.1.2.2,.slice .ro 2 a.1.1.2.2.length (gl e_api_Label a.1.1.2.2),.bool a.1.2.1,.int .i64 a.1.2.2],.eptr [.str a.2]]
def f358.blks (a : T_api_Machine × ByteArray) : List (List D) := []
def f358.res (a : T_api_Machine × ByteArray) : List D := [.bool (isMach a)]
def f358.blks' (a : T_api_Machine × ByteArray) : List (List D) := []
def f358.C : Contract := FnC f358.args f358.blks (fun _ => True) f358.res f358.blks'
end Go.Abs

/- interregnum/agent.Of$1 -/
namespace Go.Abs
open Go
set_option linter.unusedVariables false
def f358.kills (a : T_api_Machine × ByteArray) : List Hint := []
def f358.cuts (a : T_api_Machine × ByteArray) : List (Nat × Σ β : Type,β→Tm) := []
def f358.af (a : T_api_Machine × ByteArray) : AF := AF.mk (.seq (.region [oT 2 0 .box [0],
 ⟨(some 3),1,.move,[.c (.bool false)],none⟩])
 (.seq (.region [oT 4 2 (.fieldAddr 0) [2],
 oT 5 3 (.fieldAddr 0) [4],
 oT 6 4 (.load false 1) [5],
 oT 7 5 (.load false 1) [1],
 oT 8 6 (.bin .eql) [6,7],
 oT 3 7 .move [8]])
 (.ret)))
 [.tmp 3] 0 7
def f358.env : Env := []
def f358.tree (a : T_api_Machine × ByteArray) : Prop := ((a.1.1.1.toList == a.2.toList) = (isMach a))∧True
def f358.vc (a : T_api_Machine × ByteArray) : Prop := ((a.1.1.1.toList == a.2.toList) = isMach a)
set_option maxRecDepth 100000 in
set_option maxHeartbeats 2000000 in
theorem f358.of (a : T_api_Machine × ByteArray) (h : f358.vc a) : f358.tree a := ⟨h,trivial⟩
theorem f358.eq (a : T_api_Machine × ByteArray) : (f358.af a).gives f358.env (f358.args a) (f358.blks a) (f358.res a) (f358.blks' a) = f358.tree a := by kernel_rfl
end Go.Abs

-- interregnum/gen1.machine$1
namespace Go.Abs
open Go
def f204.args (a : T_api_Machine × ByteArray) : List D := [.agg [.str a.1.1.1,.int .i64 a.1.1.2.1.1,.int .i64 a.1.1.2.1.2.1,.int .i64 a.1.1.2.1.2.2,.slice .ro 2 a.1.1.2.2.length (gl e_api_Label a.1.1.2.2),.bool a.1.2.1,.int .i64 a.1.2.2],.eptr [.str a.2]]
def f204.blks (a : T_api_Machine × ByteArray) : List (List D) := []
def f204.res (a : T_api_Machine × ByteArray) : List D := [.bool (isMach a)]
def f204.blks' (a : T_api_Machine × ByteArray) : List (List D) := []
def f204.C : Contract := FnC f204.args f204.blks (fun _ => True) f204.res f204.blks'
end Go.Abs

/- interregnum/gen1.machine$1 -/
namespace Go.Abs
open Go
set_option linter.unusedVariables false
def f204.kills (a : T_api_Machine × ByteArray) : List Hint := []
def f204.cuts (a : T_api_Machine × ByteArray) : List (Nat × Σ β : Type,β→Tm) := []
def f204.af (a : T_api_Machine × ByteArray) : AF := AF.mk (.seq (.region [oT 2 0 .box [0],
 ⟨(some 3),1,.move,[.c (.bool false)],none⟩])
 (.seq (.region [oT 4 2 (.fieldAddr 0) [2],
 oT 5 3 (.fieldAddr 0) [4],
 oT 6 4 (.load false 1) [5],
 oT 7 5 (.load false 1) [1],
 oT 8 6 (.bin .eql) [6,7],
 oT 3 7 .move [8]])
 (.ret)))
 [.tmp 3] 0 7
def f204.env : Env := []
def f204.tree (a : T_api_Machine × ByteArray) : Prop := ((a.1.1.1.toList == a.2.toList) = (isMach a))∧True
def f204.vc (a : T_api_Machine × ByteArray) : Prop := ((a.1.1.1.toList == a.2.toList) = isMach a)
set_option maxRecDepth 100000 in
set_option maxHeartbeats 2000000 in
theorem f204.of (a : T_api_Machine × ByteArray) (h : f204.vc a) : f204.tree a := ⟨h,trivial⟩
theorem f204.eq (a : T_api_Machine × ByteArray) : (f204.af a).gives f204.env (f204.args a) (f204.blks a) (f204.res a) (f204.blks' a) = f204.tree a := by kernel_rfl
end Go.Abs

-- interregnum/gen1.queue$1
namespace Go.Abs
open Go
def f208.args (a : T_api_Queue × ByteArray) : List D := [.agg [.str a.1.1,.int .i64 a.1.2.1,.int .i64 a.1.2.2.1,.int .i64 a.1.2.2.2],.eptr [.str a.2]]
def f208.blks (a : T_api_Queue × ByteArray) : List (List D) := []
def f208.res (a : T_api_Queue × ByteArray) : List D := [.bool (isQueue a)]
def f208.blks' (a : T_api_Queue × ByteArray) : List (List D) := []
def f208.C : Contract := FnC f208.args f208.blks (fun _ => True) f208.res f208.blks'
end Go.Abs

/- interregnum/gen1.queue$1 -/
namespace Go.Abs
open Go
set_option linter.unusedVariables false
def f208.kills (a : T_api_Queue × ByteArray) : List Hint := []
def f208.cuts (a : T_api_Queue × ByteArray) : List (Nat × Σ β : Type,β→Tm) := []
def f208.af (a : T_api_Queue × ByteArray) : AF := AF.mk (.seq (.region [oT 2 0 .box [0],
 ⟨(some 3),1,.move,[.c (.bool false)],none⟩])
 (.seq (.region [oT 4 2 (.fieldAddr 0) [2],
 oT 5 3 (.load false 1) [4],
 oT 6 4 (.load false 1) [1],
 oT 7 5 (.bin .eql) [5,6],
 oT 3 6 .move [7]])
 (.ret)))
 [.tmp 3] 0 6
def f208.env : Env := []
def f208.tree (a : T_api_Queue × ByteArray) : Prop := ((a.1.1.toList == a.2.toList) = (isQueue a))∧True
def f208.vc (a : T_api_Queue × ByteArray) : Prop := ((a.1.1.toList == a.2.toList) = isQueue a)
set_option maxRecDepth 100000 in
set_option maxHeartbeats 2000000 in
theorem f208.of (a : T_api_Queue × ByteArray) (h : f208.vc a) : f208.tree a := ⟨h,trivial⟩
theorem f208.eq (a : T_api_Queue × ByteArray) : (f208.af a).gives f208.env (f208.args a) (f208.blks a) (f208.res a) (f208.blks' a) = f208.tree a := by kernel_rfl
end Go.Abs

-- slices.IndexFunc[[]interregnum/api.Machine,interregnum/api.Machine]
namespace Go.Abs
open Go
def f203.args (a : (List (T_api_Machine)) × ByteArray) : List D := [.slice .ro 7 a.1.length (gl e_api_Machine a.1),.fn 204 [.eptr [.str a.2]]]
def f203.blks (a : (List (T_api_Machine)) × ByteArray) : List (List D) := []
def f203.res (a : (List (T_api_Machine)) × ByteArray) : List D := [.int .i64 (ixMach a)]
def f203.blks' (a : (List (T_api_Machine)) × ByteArray) : List (List D) := []
def f203.C : Contract := FnC f203.args f203.blks (fun a => LL20 a) f203.res f203.blks'
end Go.Abs

/- slices.IndexFunc[[]interregnum/api.Machine,interregnum/api.Machine] -/
namespace Go.Abs
open Go
set_option linter.unusedVariables false
def f203.S0 (a : (List (T_api_Machine)) × ByteArray) (x : Int) : Tm := ⟨[.slice .ro 7 a.1.length (gl e_api_Machine a.1),.fn 204 [.eptr [.str a.2]],.dead,.dead,.dead,.dead,.dead,.int .i64 (a.1.length : Int),.int .i64 x,.dead,.dead,.dead,.dead,.dead,.dead,.dead,.dead,.dead,.dead],[],[]⟩
def f203.kills (a : (List (T_api_Machine)) × ByteArray) : List Hint := [.tell Int (f203.S0 a)]
def f203.cuts (a : (List (T_api_Machine)) × ByteArray) : List (Nat × Σ β : Type,β→Tm) := []
def f203.af (a : (List (T_api_Machine)) × ByteArray) : AF := AF.mk (.seq (.region [⟨(some 4),0,.move,[.c (.int .i64 (0))],none⟩])
 (.seq (.seq (.region [oT 6 1 .move [0],
 oT 7 2 (.len false) [6],
 ⟨(some 8),3,.move,[.c (.int .i64 (0))],none⟩])
 (.block 0 (.loopT Int (f203.S0 a) 4 20 (.seq (.region [oT 9 4 (.bin .lss) [8,7]])
 (.seq (.cond (.t 9) (.skip) (.exit 0))
 (.seq (.block 1 (.seq (.region [oT 10 5 .move [8],
 oT 5 6 .move [10]])
 (.seq (.region [oT 11 7 .move [1],
 oT 12 8 .move [0],
 oT 13 9 .move [5],
 oT 14 10 (.indexAddr 7 none) [12,13],
 oT 15 11 (.load true 7) [14],
 oT 16 12 (.callv false) [11,15]])
 (.cond (.t 16) (.seq (.region [oT 17 16 .move [5],
 oT 4 17 .move [17]])
 (.ret)) (.skip)))))
 (.region [⟨(some 18),18,(.bin .add),[.t 8,.c (.int .i64 (1))],none⟩,
 oT 8 19 .move [18]])))))))
 (.seq (.region [⟨(some 4),20,.move,[.c (.int .i64 (-1))],none⟩])
 (.ret))))
 [.tmp 4] 0 17
def f203.env : Env := [(204,f204.C)]
def f203.tree (a : (List (T_api_Machine)) × ByteArray) : Prop := ∃ (I2 : Int→Prop) (μ3 : Int→Nat),(∃ x1 : Int,SlS e_api_Machine a.1 ((DEqs [.eptr [.str a.2]] [.eptr [.str a.2]])∧((a.1.length : Int) = (a.1.length : Int))∧((0 : Int) = x1)∧I2 x1))∧∀ y4 : Int,I2 y4→(Br (decide (y4 < (a.1.length : Int))) (Br (decide ((0 : Int)≤y4) && decide (y4 < (a.1.length : Int))) (∃ c8 : T_api_Machine × ByteArray,((((at_ a.1 y4).1).1) = c8.1.1.1)∧(((((at_ a.1 y4).1).2.1).1) = c8.1.1.2.1.1)∧(((((at_ a.1 y4).1).2.1).2.1) = c8.1.1.2.1.2.1)∧(((((at_ a.1 y4).1).2.1).2.2) = c8.1.1.2.1.2.2)∧SlQ ((((at_ a.1 y4).1).2.2).length) c8.1.1.2.2.length (gl e_api_Label (((at_ a.1 y4).1).2.2)) (gl e_api_Label c8.1.1.2.2) ((((at_ a.1 y4).2.1) = c8.1.2.1)∧(((at_ a.1 y4).2.2) = c8.1.2.2)∧(DEqs [.str a.2] [.str c8.2])∧True∧Br (isMach c8) ((y4 = (ixMach a))∧True) (Let (IntKind.i64.wrap (y4 + (1 : Int))) (fun v12 : Int => ∃ x13 : Int,SlS e_api_Machine a.1 ((DEqs [.eptr [.str a.2]] [.eptr [.str a.2]])∧((a.1.length : Int) = (a.1.length : Int))∧(v12 = x13)∧I2 x13∧μ3 x13 < μ3 y4))))) False) (((-1 : Int) = (ixMach a))∧True))
def f203.vc (a : (List (T_api_Machine)) × ByteArray) : Prop := (∃ (I2 : Int→Prop) (μ3 : Int→Nat),I2 (0 : Int)∧∀ y4 : Int,I2 y4→((y4 < (a.1.length : Int)→((0 : Int)≤y4∧y4 < (a.1.length : Int)∧(((isMach ((((at_ a.1 y4).1),(at_ a.1 y4).2.1,(at_ a.1 y4).2.2),a.2)) = true→(y4 = ixMach a))∧(¬ ((isMach ((((at_ a.1 y4).1),(at_ a.1 y4).2.1,(at_ a.1 y4).2.2),a.2)) = true)→(-9223372036854775808≤(y4 + (1 : Int))∧(y4 + (1 : Int))≤9223372036854775807∧(I2 (y4 + (1 : Int))∧μ3 (y4 + (1 : Int)) < μ3 y4))))))∧(¬ (y4 < (a.1.length : Int))→((-1 : Int) = ixMach a))))
set_option maxRecDepth 100000 in
set_option maxHeartbeats 2000000 in
theorem f203.of (a : (List (T_api_Machine)) × ByteArray) (h : f203.vc a) : f203.tree a := Exists.elim h (fun I2 h25_ => Exists.elim h25_ (fun μ3 h25 => ⟨I2,μ3,⟨(0 : Int),SlS.mk  (⟨(DEqs.refl _),⟨rfl,⟨rfl,h25.1⟩⟩⟩)⟩,fun y4 h27 => br (h25.2 y4 h27) Cnd.dec (fun h5 k23 => chk k23.2.2 Cnd.ix ⟨k23.1,k23.2.1⟩ (fun h7 k21 => ⟨((((at_ a.1 y4).1),(at_ a.1 y4).2.1,(at_ a.1 y4).2.2),a.2),⟨rfl,⟨rfl,⟨rfl,⟨rfl,slQ (Rds.self (enc := e_api_Label)) (⟨rfl,⟨rfl,⟨(DEqs.refl _),⟨trivial,br k21 Cnd.b (fun h9 k18 => ⟨k18,trivial⟩) (fun h10 k19 => wrapK.i64 k19 (fun h15 h16 k17 => ⟨(y4 + (1 : Int)),SlS.mk  (⟨(DEqs.refl _),⟨rfl,⟨rfl,k17⟩⟩⟩)⟩))⟩⟩⟩⟩)⟩⟩⟩⟩⟩)) (fun h6 k24 => ⟨k24,trivial⟩)⟩))
theorem f203.eq (a : (List (T_api_Machine)) × ByteArray) : (f203.af a).gives f203.env (f203.args a) (f203.blks a) (f203.res a) (f203.blks' a) = f203.tree a := by kernel_rfl
end Go.Abs

-- slices.IndexFunc[[]interregnum/api.Machine,interregnum/api.Machine]#1
namespace Go.Abs
open Go
def f1203.args (a : (List (T_api_Machine)) × ByteArray) : List D := [.slice .ro 7 a.1.length (gl e_api_Machine a.1),.fn 358 [.eptr [.str a.2]]]
def f1203.blks (a : (List (T_api_Machine)) × ByteArray) : List (List D) := []
def f1203.res (a : (List (T_api_Machine)) × ByteArray) : List D := [.int .i64 (ixMach a)]
def f1203.blks' (a : (List (T_api_Machine)) × ByteArray) : List (List D) := []
def f1203.C : Contract := FnC f1203.args f1203.blks (fun a => LL20 a) f1203.res f1203.blks'
end Go.Abs

/- slices.IndexFunc[[]interregnum/api.Machine,interregnum/api.Machine]#1 -/
namespace Go.Abs
open Go
set_option linter.unusedVariables false
def f1203.S0 (a : (List (T_api_Machine)) × ByteArray) (x : Int) : Tm := ⟨[.slice .ro 7 a.1.length (gl e_api_Machine a.1),.fn 358 [.eptr [.str a.2]],.dead,.dead,.dead,.dead,.dead,.int .i64 (a.1.length : Int),.int .i64 x,.dead,.dead,.dead,.dead,.dead,.dead,.dead,.dead,.dead,.dead],[],[]⟩
def f1203.kills (a : (List (T_api_Machine)) × ByteArray) : List Hint := [.tell Int (f1203.S0 a)]
def f1203.cuts (a : (List (T_api_Machine)) × ByteArray) : List (Nat × Σ β : Type,β→Tm) := []
def f1203.af (a : (List (T_api_Machine)) × ByteArray) : AF := AF.mk (.seq (.region [⟨(some 4),0,.move,[.c (.int .i64 (0))],none⟩])
 (.seq (.seq (.region [oT 6 1 .move [0],
 oT 7 2 (.len false) [6],
 ⟨(some 8),3,.move,[.c (.int .i64 (0))],none⟩])
 (.block 0 (.loopT Int (f1203.S0 a) 4 20 (.seq (.region [oT 9 4 (.bin .lss) [8,7]])
 (.seq (.cond (.t 9) (.skip) (.exit 0))
 (.seq (.block 1 (.seq (.region [oT 10 5 .move [8],
 oT 5 6 .move [10]])
 (.seq (.region [oT 11 7 .move [1],
 oT 12 8 .move [0],
 oT 13 9 .move [5],
 oT 14 10 (.indexAddr 7 none) [12,13],
 oT 15 11 (.load true 7) [14],
 oT 16 12 (.callv false) [11,15]])
 (.cond (.t 16) (.seq (.region [oT 17 16 .move [5],
 oT 4 17 .move [17]])
 (.ret)) (.skip)))))
 (.region [⟨(some 18),18,(.bin .add),[.t 8,.c (.int .i64 (1))],none⟩,
 oT 8 19 .move [18]])))))))
 (.seq (.region [⟨(some 4),20,.move,[.c (.int .i64 (-1))],none⟩])
 (.ret))))
 [.tmp 4] 0 17
def f1203.env : Env := [(358,f358.C)]
def f1203.tree (a : (List (T_api_Machine)) × ByteArray) : Prop := ∃ (I2 : Int→Prop) (μ3 : Int→Nat),(∃ x1 : Int,SlS e_api_Machine a.1 ((DEqs [.eptr [.str a.2]] [.eptr [.str a.2]])∧((a.1.length : Int) = (a.1.length : Int))∧((0 : Int) = x1)∧I2 x1))∧∀ y4 : Int,I2 y4→(Br (decide (y4 < (a.1.length : Int))) (Br (decide ((0 : Int)≤y4) && decide (y4 < (a.1.length : Int))) (∃ c8 : T_api_Machine × ByteArray,((((at_ a.1 y4).1).1) = c8.1.1.1)∧(((((at_ a.1 y4).1).2.1).1) = c8.1.1.2.1.1)∧(((((at_ a.1 y4).1).2.1).2.1) = c8.1.1.2.1.2.1)∧(((((at_ a.1 y4).1).2.1).2.2) = c8.1.1.2.1.2.2)∧SlQ ((((at_ a.1 y4).1).2.2).length) c8.1.1.2.2.length (gl e_api_Label (((at_ a.1 y4).1).2.2)) (gl e_api_Label c8.1.1.2.2) ((((at_ a.1 y4).2.1) = c8.1.2.1)∧(((at_ a.1 y4).2.2) = c8.1.2.2)∧(DEqs [.str a.2] [.str c8.2])∧True∧Br (isMach c8) ((y4 = (ixMach a))∧True) (Let (IntKind.i64.wrap (y4 + (1 : Int))) (fun v12 : Int => ∃ x13 : Int,SlS e_api_Machine a.1 ((DEqs [.eptr [.str a.2]] [.eptr [.str a.2]])∧((a.1.length : Int) = (a.1.length : Int))∧(v12 = x13)∧I2 x13∧μ3 x13 < μ3 y4))))) False) (((-1 : Int) = (ixMach a))∧True))
def f1203.vc (a : (List (T_api_Machine)) × ByteArray) : Prop := (∃ (I2 : Int→Prop) (μ3 : Int→Nat),I2 (0 : Int)∧∀ y4 : Int,I2 y4→((y4 < (a.1.length : Int)→((0 : Int)≤y4∧y4 < (a.1.length : Int)∧(((isMach ((((at_ a.1 y4).1),(at_ a.1 y4).2.1,(at_ a.1 y4).2.2),a.2)) = true→(y4 = ixMach a))∧(¬ ((isMach ((((at_ a.1 y4).1),(at_ a.1 y4).2.1,(at_ a.1 y4).2.2),a.2)) = true)→(-9223372036854775808≤(y4 + (1 : Int))∧(y4 + (1 : Int))≤9223372036854775807∧(I2 (y4 + (1 : Int))∧μ3 (y4 + (1 : Int)) < μ3 y4))))))∧(¬ (y4 < (a.1.length : Int))→((-1 : Int) = ixMach a))))
set_option maxRecDepth 100000 in
set_option maxHeartbeats 2000000 in
theorem f1203.of (a : (List (T_api_Machine)) × ByteArray) (h : f1203.vc a) : f1203.tree a := Exists.elim h (fun I2 h25_ => Exists.elim h25_ (fun μ3 h25 => ⟨I2,μ3,⟨(0 : Int),SlS.mk  (⟨(DEqs.refl _),⟨rfl,⟨rfl,h25.1⟩⟩⟩)⟩,fun y4 h27 => br (h25.2 y4 h27) Cnd.dec (fun h5 k23 => chk k23.2.2 Cnd.ix ⟨k23.1,k23.2.1⟩ (fun h7 k21 => ⟨((((at_ a.1 y4).1),(at_ a.1 y4).2.1,(at_ a.1 y4).2.2),a.2),⟨rfl,⟨rfl,⟨rfl,⟨rfl,slQ (Rds.self (enc := e_api_Label)) (⟨rfl,⟨rfl,⟨(DEqs.refl _),⟨trivial,br k21 Cnd.b (fun h9 k18 => ⟨k18,trivial⟩) (fun h10 k19 => wrapK.i64 k19 (fun h15 h16 k17 => ⟨(y4 + (1 : Int)),SlS.mk  (⟨(DEqs.refl _),⟨rfl,⟨rfl,k17⟩⟩⟩)⟩))⟩⟩⟩⟩)⟩⟩⟩⟩⟩)) (fun h6 k24 => ⟨k24,trivial⟩)⟩))
theorem f1203.eq (a : (List (T_api_Machine)) × ByteArray) : (f1203.af a).gives f1203.env (f1203.args a) (f1203.blks a) (f1203.res a) (f1203.blks' a) = f1203.tree a := by kernel_rfl
end Go.Abs

-- slices.IndexFunc[[]interregnum/api.Queue,interregnum/api.Queue]
namespace Go.Abs
open Go
def f207.args (a : (List (T_api_Queue)) × ByteArray) : List D := [.slice .ro 4 a.1.length (gl e_api_Queue a.1),.fn 208 [.eptr [.str a.2]]]
def f207.blks (a : (List (T_api_Queue)) × ByteArray) : List (List D) := []
def f207.res (a : (List (T_api_Queue)) × ByteArray) : List D := [.int .i64 (ixQueue a)]
def f207.blks' (a : (List (T_api_Queue)) × ByteArray) : List (List D) := []
def f207.C : Contract := FnC f207.args f207.blks (fun a => LL20 a) f207.res f207.blks'
end Go.Abs

/- slices.IndexFunc[[]interregnum/api.Queue,interregnum/api.Queue] -/
namespace Go.Abs
open Go
set_option linter.unusedVariables false
def f207.S0 (a : (List (T_api_Queue)) × ByteArray) (x : Int) : Tm := ⟨[.slice .ro 4 a.1.length (gl e_api_Queue a.1),.fn 208 [.eptr [.str a.2]],.dead,.dead,.dead,.dead,.dead,.int .i64 (a.1.length : Int),.int .i64 x,.dead,.dead,.dead,.dead,.dead,.dead,.dead,.dead,.dead,.dead],[],[]⟩
def f207.kills (a : (List (T_api_Queue)) × ByteArray) : List Hint := [.tell Int (f207.S0 a)]
def f207.cuts (a : (List (T_api_Queue)) × ByteArray) : List (Nat × Σ β : Type,β→Tm) := []
def f207.af (a : (List (T_api_Queue)) × ByteArray) : AF := AF.mk (.seq (.region [⟨(some 4),0,.move,[.c (.int .i64 (0))],none⟩])
 (.seq (.seq (.region [oT 6 1 .move [0],
 oT 7 2 (.len false) [6],
 ⟨(some 8),3,.move,[.c (.int .i64 (0))],none⟩])
 (.block 0 (.loopT Int (f207.S0 a) 4 20 (.seq (.region [oT 9 4 (.bin .lss) [8,7]])
 (.seq (.cond (.t 9) (.skip) (.exit 0))
 (.seq (.block 1 (.seq (.region [oT 10 5 .move [8],
 oT 5 6 .move [10]])
 (.seq (.region [oT 11 7 .move [1],
 oT 12 8 .move [0],
 oT 13 9 .move [5],
 oT 14 10 (.indexAddr 4 none) [12,13],
 oT 15 11 (.load true 4) [14],
 oT 16 12 (.callv false) [11,15]])
 (.cond (.t 16) (.seq (.region [oT 17 16 .move [5],
 oT 4 17 .move [17]])
 (.ret)) (.skip)))))
 (.region [⟨(some 18),18,(.bin .add),[.t 8,.c (.int .i64 (1))],none⟩,
 oT 8 19 .move [18]])))))))
 (.seq (.region [⟨(some 4),20,.move,[.c (.int .i64 (-1))],none⟩])
 (.ret))))
 [.tmp 4] 0 17
def f207.env : Env := [(208,f208.C)]
def f207.tree (a : (List (T_api_Queue)) × ByteArray) : Prop := ∃ (I2 : Int→Prop) (μ3 : Int→Nat),(∃ x1 : Int,SlS e_api_Queue a.1 ((DEqs [.eptr [.str a.2]] [.eptr [.str a.2]])∧((a.1.length : Int) = (a.1.length : Int))∧((0 : Int) = x1)∧I2 x1))∧∀ y4 : Int,I2 y4→(Br (decide (y4 < (a.1.length : Int))) (Br (decide ((0 : Int)≤y4) && decide (y4 < (a.1.length : Int))) (∃ c8 : T_api_Queue × ByteArray,(((at_ a.1 y4).1) = c8.1.1)∧((((at_ a.1 y4).2).1) = c8.1.2.1)∧((((at_ a.1 y4).2).2.1) = c8.1.2.2.1)∧((((at_ a.1 y4).2).2.2) = c8.1.2.2.2)∧(DEqs [.str a.2] [.str c8.2])∧True∧Br (isQueue c8) ((y4 = (ixQueue a))∧True) (Let (IntKind.i64.wrap (y4 + (1 : Int))) (fun v12 : Int => ∃ x13 : Int,SlS e_api_Queue a.1 ((DEqs [.eptr [.str a.2]] [.eptr [.str a.2]])∧((a.1.length : Int) = (a.1.length : Int))∧(v12 = x13)∧I2 x13∧μ3 x13 < μ3 y4)))) False) (((-1 : Int) = (ixQueue a))∧True))
def f207.vc (a : (List (T_api_Queue)) × ByteArray) : Prop := (∃ (I2 : Int→Prop) (μ3 : Int→Nat),I2 (0 : Int)∧∀ y4 : Int,I2 y4→((y4 < (a.1.length : Int)→((0 : Int)≤y4∧y4 < (a.1.length : Int)∧(((isQueue ((at_ a.1 y4),a.2)) = true→(y4 = ixQueue a))∧(¬ ((isQueue ((at_ a.1 y4),a.2)) = true)→(-9223372036854775808≤(y4 + (1 : Int))∧(y4 + (1 : Int))≤9223372036854775807∧(I2 (y4 + (1 : Int))∧μ3 (y4 + (1 : Int)) < μ3 y4))))))∧(¬ (y4 < (a.1.length : Int))→((-1 : Int) = ixQueue a))))
set_option maxRecDepth 100000 in
set_option maxHeartbeats 2000000 in
theorem f207.of (a : (List (T_api_Queue)) × ByteArray) (h : f207.vc a) : f207.tree a := Exists.elim h (fun I2 h25_ => Exists.elim h25_ (fun μ3 h25 => ⟨I2,μ3,⟨(0 : Int),SlS.mk  (⟨(DEqs.refl _),⟨rfl,⟨rfl,h25.1⟩⟩⟩)⟩,fun y4 h27 => br (h25.2 y4 h27) Cnd.dec (fun h5 k23 => chk k23.2.2 Cnd.ix ⟨k23.1,k23.2.1⟩ (fun h7 k21 => ⟨((at_ a.1 y4),a.2),⟨rfl,⟨rfl,⟨rfl,⟨rfl,⟨(DEqs.refl _),⟨trivial,br k21 Cnd.b (fun h9 k18 => ⟨k18,trivial⟩) (fun h10 k19 => wrapK.i64 k19 (fun h15 h16 k17 => ⟨(y4 + (1 : Int)),SlS.mk  (⟨(DEqs.refl _),⟨rfl,⟨rfl,k17⟩⟩⟩)⟩))⟩⟩⟩⟩⟩⟩⟩)) (fun h6 k24 => ⟨k24,trivial⟩)⟩))
theorem f207.eq (a : (List (T_api_Queue)) × ByteArray) : (f207.af a).gives f207.env (f207.args a) (f207.blks a) (f207.res a) (f207.blks' a) = f207.tree a := by kernel_rfl
end Go.Abs

-- interregnum/gen1.machine
namespace Go.Abs
open Go
def f178.args (a : T_api_State × ByteArray) : List D := [.agg [.int .i64 a.1.1,.int .i64 a.1.2.1,.slice .ro 7 a.1.2.2.1.length (gl e_api_Machine a.1.2.2.1),.slice .ro 4 a.1.2.2.2.1.length (gl e_api_Queue a.1.2.2.2.1),.slice .ro 13 a.1.2.2.2.2.length (gl e_api_Job a.1.2.2.2.2)],.str a.2]
def f178.blks (a : T_api_State × ByteArray) : List (List D) := []
def f178.res (a : T_api_State × ByteArray) : List D := [.int .i64 (machR a)]
def f178.blks' (a : T_api_State × ByteArray) : List (List D) := []
def f178.C : Contract := FnC f178.args f178.blks (fun a => machR_pre a) f178.res f178.blks'
end Go.Abs

/- interregnum/gen1.machine -/
namespace Go.Abs
open Go
set_option linter.unusedVariables false
def f178.kills (a : T_api_State × ByteArray) : List Hint := []
def f178.cuts (a : T_api_State × ByteArray) : List (Nat × Σ β : Type,β→Tm) := []
def f178.af (a : T_api_State × ByteArray) : AF := AF.mk (.seq (.region [oT 2 0 .box [0],
 oT 3 1 .box [1],
 ⟨(some 4),2,.move,[.c (.int .i64 (0))],none⟩])
 (.seq (.region [oT 5 3 (.fieldAddr 2) [2],
 oT 6 4 (.load false 1) [5],
 oT 7 5 (.mkfunc 204 0) [3],
 oT 8 6 (.call false 203) [6,7],
 oT 4 10 .move [8]])
 (.ret)))
 [.tmp 4] 0 7
def f178.env : Env := [(203,f203.C)]
def f178.tree (a : T_api_State × ByteArray) : Prop := ∃ c1 : (List (T_api_Machine)) × ByteArray,SlQ a.1.2.2.1.length c1.1.length (gl e_api_Machine a.1.2.2.1) (gl e_api_Machine c1.1) ((DEqs [.eptr [.str a.2]] [.eptr [.str c1.2]])∧(LL20 c1)∧((ixMach c1) = (machR a))∧True)
def f178.vc (a : T_api_State × ByteArray) : Prop := (LL20 (a.1.2.2.1,a.2)∧((ixMach (a.1.2.2.1,a.2)) = machR a))
set_option maxRecDepth 100000 in
set_option maxHeartbeats 2000000 in
theorem f178.of (a : T_api_State × ByteArray) (h : f178.vc a) : f178.tree a := ⟨(a.1.2.2.1,a.2),slQ (Rds.self (enc := e_api_Machine)) (⟨(DEqs.refl _),⟨h.1,⟨h.2,trivial⟩⟩⟩)⟩
theorem f178.eq (a : T_api_State × ByteArray) : (f178.af a).gives f178.env (f178.args a) (f178.blks a) (f178.res a) (f178.blks' a) = f178.tree a := by kernel_rfl
end Go.Abs

-- interregnum/gen1.queue
namespace Go.Abs
open Go
def f184.args (a : T_api_State × ByteArray) : List D := [.agg [.int .i64 a.1.1,.int .i64 a.1.2.1,.slice .ro 7 a.1.2.2.1.length (gl e_api_Machine a.1.2.2.1),.slice .ro 4 a.1.2.2.2.1.length (gl e_api_Queue a.1.2.2.2.1),.slice .ro 13 a.1.2.2.2.2.length (gl e_api_Job a.1.2.2.2.2)],.str a.2]
def f184.blks (a : T_api_State × ByteArray) : List (List D) := []
def f184.res (a : T_api_State × ByteArray) : List D := [.int .i64 (queueR a)]
def f184.blks' (a : T_api_State × ByteArray) : List (List D) := []
def f184.C : Contract := FnC f184.args f184.blks (fun a => machR_pre a) f184.res f184.blks'
end Go.Abs

/- interregnum/gen1.queue -/
namespace Go.Abs
open Go
set_option linter.unusedVariables false
def f184.kills (a : T_api_State × ByteArray) : List Hint := []
def f184.cuts (a : T_api_State × ByteArray) : List (Nat × Σ β : Type,β→Tm) := []
def f184.af (a : T_api_State × ByteArray) : AF := AF.mk (.seq (.region [oT 2 0 .box [0],
 oT 3 1 .box [1],
 ⟨(some 4),2,.move,[.c (.int .i64 (0))],none⟩])
 (.seq (.region [oT 5 3 (.fieldAddr 3) [2],
 oT 6 4 (.load false 1) [5],
 oT 7 5 (.mkfunc 208 0) [3],
 oT 8 6 (.call false 207) [6,7],
 oT 4 10 .move [8]])
 (.ret)))
 [.tmp 4] 0 7
def f184.env : Env := [(207,f207.C)]
def f184.tree (a : T_api_State × ByteArray) : Prop := ∃ c1 : (List (T_api_Queue)) × ByteArray,SlQ a.1.2.2.2.1.length c1.1.length (gl e_api_Queue a.1.2.2.2.1) (gl e_api_Queue c1.1) ((DEqs [.eptr [.str a.2]] [.eptr [.str c1.2]])∧(LL20 c1)∧((ixQueue c1) = (queueR a))∧True)
def f184.vc (a : T_api_State × ByteArray) : Prop := (LL20 (a.1.2.2.2.1,a.2)∧((ixQueue (a.1.2.2.2.1,a.2)) = queueR a))
set_option maxRecDepth 100000 in
set_option maxHeartbeats 2000000 in
theorem f184.of (a : T_api_State × ByteArray) (h : f184.vc a) : f184.tree a := ⟨(a.1.2.2.2.1,a.2),slQ (Rds.self (enc := e_api_Queue)) (⟨(DEqs.refl _),⟨h.1,⟨h.2,trivial⟩⟩⟩)⟩
theorem f184.eq (a : T_api_State × ByteArray) : (f184.af a).gives f184.env (f184.args a) (f184.blks a) (f184.res a) (f184.blks' a) = f184.tree a := by kernel_rfl
end Go.Abs

-- interregnum/interregnumref15.machine
namespace Go.Abs
open Go
def f370.args (a : T_api_State × ByteArray) : List D := [.agg [.int .i64 a.1.1,.int .i64 a.1.2.1,.slice .ro 7 a.1.2.2.1.length (gl e_api_Machine a.1.2.2.1),.slice .ro 4 a.1.2.2.2.1.length (gl e_api_Queue a.1.2.2.2.1),.slice .ro 13 a.1.2.2.2.2.length (gl e_api_Job a.1.2.2.2.2)],.str a.2]
def f370.blks (a : T_api_State × ByteArray) : List (List D) := []
def f370.res (a : T_api_State × ByteArray) : List D := [.int .i64 (machR a)]
def f370.blks' (a : T_api_State × ByteArray) : List (List D) := []
def f370.C : Contract := FnC f370.args f370.blks (fun a => machR_pre a) f370.res f370.blks'
end Go.Abs

/- interregnum/interregnumref15.machine -/
namespace Go.Abs
open Go
set_option linter.unusedVariables false
def f370.S0 (a : T_api_State × ByteArray) (x : Int) : Tm := ⟨[.dead,.str a.2,.ptr 0 0,.dead,.dead,.dead,.dead,.dead,.int .i64 (a.1.2.2.1.length : Int),.int .i64 x,.dead,.dead,.dead,.dead,.dead,.dead,.dead,.dead,.dead,.dead,.dead,.dead,.dead],[(0,false,[.int .i64 a.1.1,.int .i64 a.1.2.1,.slice .ro 7 a.1.2.2.1.length (gl e_api_Machine a.1.2.2.1),.slice .ro 4 a.1.2.2.2.1.length (gl e_api_Queue a.1.2.2.2.1),.slice .ro 13 a.1.2.2.2.2.length (gl e_api_Job a.1.2.2.2.2)])],[]⟩
def f370.kills (a : T_api_State × ByteArray) : List Hint := [.tell Int (f370.S0 a)]
def f370.cuts (a : T_api_State × ByteArray) : List (Nat × Σ β : Type,β→Tm) := []
def f370.af (a : T_api_State × ByteArray) : AF := AF.mk (.seq (.region [oT 2 0 .box [0],
 ⟨(some 4),1,.move,[.c (.int .i64 (0))],none⟩])
 (.seq (.seq (.region [oT 6 2 (.fieldAddr 2) [2],
 oT 7 3 (.load false 1) [6],
 oT 8 4 (.len false) [7],
 ⟨(some 9),5,.move,[.c (.int .i64 (0))],none⟩])
 (.block 0 (.loopT Int (f370.S0 a) 6 22 (.seq (.region [oT 10 6 (.bin .lss) [9,8]])
 (.seq (.cond (.t 10) (.skip) (.exit 0))
 (.seq (.block 1 (.seq (.region [oT 11 7 .move [9],
 oT 5 8 .move [11]])
 (.seq (.region [oT 12 9 (.fieldAddr 2) [2],
 oT 13 10 (.load false 1) [12],
 oT 14 11 .move [5],
 oT 15 12 (.indexAddr 7 none) [13,14],
 oT 16 13 (.fieldAddr 0) [15],
 oT 17 14 (.fieldAddr 0) [16],
 oT 18 15 (.load false 1) [17],
 oT 19 16 .move [1],
 oT 20 17 (.bin .eql) [18,19]])
 (.cond (.t 20) (.seq (.region [oT 21 18 .move [5],
 oT 4 19 .move [21]])
 (.ret)) (.skip)))))
 (.region [⟨(some 22),20,(.bin .add),[.t 9,.c (.int .i64 (1))],none⟩,
 oT 9 21 .move [22]])))))))
 (.seq (.region [⟨(some 4),22,.move,[.c (.int .i64 (-1))],none⟩])
 (.ret))))
 [.tmp 4] 0 21
def f370.env : Env := []
def f370.tree (a : T_api_State × ByteArray) : Prop := ∃ (I2 : Int→Prop) (μ3 : Int→Nat),(∃ x1 : Int,(a.2 = a.2)∧((a.1.2.2.1.length : Int) = (a.1.2.2.1.length : Int))∧((0 : Int) = x1)∧(a.1.1 = a.1.1)∧(a.1.2.1 = a.1.2.1)∧SlS e_api_Machine a.1.2.2.1 (SlS e_api_Queue a.1.2.2.2.1 (SlS e_api_Job a.1.2.2.2.2 (I2 x1))))∧∀ y4 : Int,I2 y4→(Br (decide (y4 < (a.1.2.2.1.length : Int))) (Br (decide ((0 : Int)≤y4) && decide (y4 < (a.1.2.2.1.length : Int))) (Br ((((at_ a.1.2.2.1 y4).1).1).toList == a.2.toList) ((y4 = (machR a))∧True) (Let (IntKind.i64.wrap (y4 + (1 : Int))) (fun v11 : Int => ∃ x12 : Int,(a.2 = a.2)∧((a.1.2.2.1.length : Int) = (a.1.2.2.1.length : Int))∧(v11 = x12)∧(a.1.1 = a.1.1)∧(a.1.2.1 = a.1.2.1)∧SlS e_api_Machine a.1.2.2.1 (SlS e_api_Queue a.1.2.2.2.1 (SlS e_api_Job a.1.2.2.2.2 (I2 x12∧μ3 x12 < μ3 y4)))))) False) (((-1 : Int) = (machR a))∧True))
def f370.vc (a : T_api_State × ByteArray) : Prop := (∃ (I2 : Int→Prop) (μ3 : Int→Nat),I2 (0 : Int)∧∀ y4 : Int,I2 y4→((y4 < (a.1.2.2.1.length : Int)→((0 : Int)≤y4∧y4 < (a.1.2.2.1.length : Int)∧(((((at_ a.1.2.2.1 y4).1).1) = a.2→(y4 = machR a))∧(¬ ((((at_ a.1.2.2.1 y4).1).1) = a.2)→(-9223372036854775808≤(y4 + (1 : Int))∧(y4 + (1 : Int))≤9223372036854775807∧(I2 (y4 + (1 : Int))∧μ3 (y4 + (1 : Int)) < μ3 y4))))))∧(¬ (y4 < (a.1.2.2.1.length : Int))→((-1 : Int) = machR a))))
set_option maxRecDepth 100000 in
set_option maxHeartbeats 2000000 in
theorem f370.of (a : T_api_State × ByteArray) (h : f370.vc a) : f370.tree a := Exists.elim h (fun I2 h23_ => Exists.elim h23_ (fun μ3 h23 => ⟨I2,μ3,⟨(0 : Int),⟨rfl,⟨rfl,⟨rfl,⟨rfl,⟨rfl,SlS.mk  (SlS.mk  (SlS.mk  (h23.1)))⟩⟩⟩⟩⟩⟩,fun y4 h25 => br (h23.2 y4 h25) Cnd.dec (fun h5 k21 => chk k21.2.2 Cnd.ix ⟨k21.1,k21.2.1⟩ (fun h7 k19 => br k19 Cnd.seq (fun h8 k17 => ⟨k17,trivial⟩) (fun h9 k18 => wrapK.i64 k18 (fun h14 h15 k16 => ⟨(y4 + (1 : Int)),⟨rfl,⟨rfl,⟨rfl,⟨rfl,⟨rfl,SlS.mk  (SlS.mk  (SlS.mk  (k16)))⟩⟩⟩⟩⟩⟩)))) (fun h6 k22 => ⟨k22,trivial⟩)⟩))
theorem f370.eq (a : T_api_State × ByteArray) : (f370.af a).gives f370.env (f370.args a) (f370.blks a) (f370.res a) (f370.blks' a) = f370.tree a := by kernel_rfl
end Go.Abs

-- interregnum/interregnumref15.queue
namespace Go.Abs
open Go
def f366.args (a : T_api_State × ByteArray) : List D := [.agg [.int .i64 a.1.1,.int .i64 a.1.2.1,.slice .ro 7 a.1.2.2.1.length (gl e_api_Machine a.1.2.2.1),.slice .ro 4 a.1.2.2.2.1.length (gl e_api_Queue a.1.2.2.2.1),.slice .ro 13 a.1.2.2.2.2.length (gl e_api_Job a.1.2.2.2.2)],.str a.2]
def f366.blks (a : T_api_State × ByteArray) : List (List D) := []
def f366.res (a : T_api_State × ByteArray) : List D := [.int .i64 (queueR a)]
def f366.blks' (a : T_api_State × ByteArray) : List (List D) := []
def f366.C : Contract := FnC f366.args f366.blks (fun a => machR_pre a) f366.res f366.blks'
end Go.Abs

/- interregnum/interregnumref15.queue -/
namespace Go.Abs
open Go
set_option linter.unusedVariables false
def f366.S0 (a : T_api_State × ByteArray) (x : Int) : Tm := ⟨[.dead,.str a.2,.ptr 0 0,.dead,.dead,.dead,.dead,.dead,.int .i64 (a.1.2.2.2.1.length : Int),.int .i64 x,.dead,.dead,.dead,.dead,.dead,.dead,.dead,.dead,.dead,.dead,.dead,.dead],[(0,false,[.int .i64 a.1.1,.int .i64 a.1.2.1,.slice .ro 7 a.1.2.2.1.length (gl e_api_Machine a.1.2.2.1),.slice .ro 4 a.1.2.2.2.1.length (gl e_api_Queue a.1.2.2.2.1),.slice .ro 13 a.1.2.2.2.2.length (gl e_api_Job a.1.2.2.2.2)])],[]⟩
def f366.kills (a : T_api_State × ByteArray) : List Hint := [.tell Int (f366.S0 a)]
def f366.cuts (a : T_api_State × ByteArray) : List (Nat × Σ β : Type,β→Tm) := []
def f366.af (a : T_api_State × ByteArray) : AF := AF.mk (.seq (.region [oT 2 0 .box [0],
 ⟨(some 4),1,.move,[.c (.int .i64 (0))],none⟩])
 (.seq (.seq (.region [oT 6 2 (.fieldAddr 3) [2],
 oT 7 3 (.load false 1) [6],
 oT 8 4 (.len false) [7],
 ⟨(some 9),5,.move,[.c (.int .i64 (0))],none⟩])
 (.block 0 (.loopT Int (f366.S0 a) 6 21 (.seq (.region [oT 10 6 (.bin .lss) [9,8]])
 (.seq (.cond (.t 10) (.skip) (.exit 0))
 (.seq (.block 1 (.seq (.region [oT 11 7 .move [9],
 oT 5 8 .move [11]])
 (.seq (.region [oT 12 9 (.fieldAddr 3) [2],
 oT 13 10 (.load false 1) [12],
 oT 14 11 .move [5],
 oT 15 12 (.indexAddr 4 none) [13,14],
 oT 16 13 (.fieldAddr 0) [15],
 oT 17 14 (.load false 1) [16],
 oT 18 15 .move [1],
 oT 19 16 (.bin .eql) [17,18]])
 (.cond (.t 19) (.seq (.region [oT 20 17 .move [5],
 oT 4 18 .move [20]])
 (.ret)) (.skip)))))
 (.region [⟨(some 21),19,(.bin .add),[.t 9,.c (.int .i64 (1))],none⟩,
 oT 9 20 .move [21]])))))))
 (.seq (.region [⟨(some 4),21,.move,[.c (.int .i64 (-1))],none⟩])
 (.ret))))
 [.tmp 4] 0 20
def f366.env : Env := []
def f366.tree (a : T_api_State × ByteArray) : Prop := ∃ (I2 : Int→Prop) (μ3 : Int→Nat),(∃ x1 : Int,(a.2 = a.2)∧((a.1.2.2.2.1.length : Int) = (a.1.2.2.2.1.length : Int))∧((0 : Int) = x1)∧(a.1.1 = a.1.1)∧(a.1.2.1 = a.1.2.1)∧SlS e_api_Machine a.1.2.2.1 (SlS e_api_Queue a.1.2.2.2.1 (SlS e_api_Job a.1.2.2.2.2 (I2 x1))))∧∀ y4 : Int,I2 y4→(Br (decide (y4 < (a.1.2.2.2.1.length : Int))) (Br (decide ((0 : Int)≤y4) && decide (y4 < (a.1.2.2.2.1.length : Int))) (Br (((at_ a.1.2.2.2.1 y4).1).toList == a.2.toList) ((y4 = (queueR a))∧True) (Let (IntKind.i64.wrap (y4 + (1 : Int))) (fun v11 : Int => ∃ x12 : Int,(a.2 = a.2)∧((a.1.2.2.2.1.length : Int) = (a.1.2.2.2.1.length : Int))∧(v11 = x12)∧(a.1.1 = a.1.1)∧(a.1.2.1 = a.1.2.1)∧SlS e_api_Machine a.1.2.2.1 (SlS e_api_Queue a.1.2.2.2.1 (SlS e_api_Job a.1.2.2.2.2 (I2 x12∧μ3 x12 < μ3 y4)))))) False) (((-1 : Int) = (queueR a))∧True))
def f366.vc (a : T_api_State × ByteArray) : Prop := (∃ (I2 : Int→Prop) (μ3 : Int→Nat),I2 (0 : Int)∧∀ y4 : Int,I2 y4→((y4 < (a.1.2.2.2.1.length : Int)→((0 : Int)≤y4∧y4 < (a.1.2.2.2.1.length : Int)∧((((at_ a.1.2.2.2.1 y4).1) = a.2→(y4 = queueR a))∧(¬ (((at_ a.1.2.2.2.1 y4).1) = a.2)→(-9223372036854775808≤(y4 + (1 : Int))∧(y4 + (1 : Int))≤9223372036854775807∧(I2 (y4 + (1 : Int))∧μ3 (y4 + (1 : Int)) < μ3 y4))))))∧(¬ (y4 < (a.1.2.2.2.1.length : Int))→((-1 : Int) = queueR a))))
set_option maxRecDepth 100000 in
set_option maxHeartbeats 2000000 in
theorem f366.of (a : T_api_State × ByteArray) (h : f366.vc a) : f366.tree a := Exists.elim h (fun I2 h23_ => Exists.elim h23_ (fun μ3 h23 => ⟨I2,μ3,⟨(0 : Int),⟨rfl,⟨rfl,⟨rfl,⟨rfl,⟨rfl,SlS.mk  (SlS.mk  (SlS.mk  (h23.1)))⟩⟩⟩⟩⟩⟩,fun y4 h25 => br (h23.2 y4 h25) Cnd.dec (fun h5 k21 => chk k21.2.2 Cnd.ix ⟨k21.1,k21.2.1⟩ (fun h7 k19 => br k19 Cnd.seq (fun h8 k17 => ⟨k17,trivial⟩) (fun h9 k18 => wrapK.i64 k18 (fun h14 h15 k16 => ⟨(y4 + (1 : Int)),⟨rfl,⟨rfl,⟨rfl,⟨rfl,⟨rfl,SlS.mk  (SlS.mk  (SlS.mk  (k16)))⟩⟩⟩⟩⟩⟩)))) (fun h6 k22 => ⟨k22,trivial⟩)⟩))
theorem f366.eq (a : T_api_State × ByteArray) : (f366.af a).gives f366.env (f366.args a) (f366.blks a) (f366.res a) (f366.blks' a) = f366.tree a := by kernel_rfl
end Go.Abs

-- interregnum/gen1.stands
namespace Go.Abs
open Go
def f368.args (a : T_api_State × Int) : List D := [.agg [.int .i64 a.1.1,.int .i64 a.1.2.1,.slice .ro 7 a.1.2.2.1.length (gl e_api_Machine a.1.2.2.1),.slice .ro 4 a.1.2.2.2.1.length (gl e_api_Queue a.1.2.2.2.1),.slice .ro 13 a.1.2.2.2.2.length (gl e_api_Job a.1.2.2.2.2)],.int .i64 a.2]
def f368.blks (a : T_api_State × Int) : List (List D) := []
def f368.res (a : T_api_State × Int) : List D := [.bool (standsB a)]
def f368.blks' (a : T_api_State × Int) : List (List D) := []
def f368.C : Contract := FnC f368.args f368.blks (fun a => stands_pre a) f368.res f368.blks'
end Go.Abs

/- interregnum/gen1.stands -/
namespace Go.Abs
open Go
set_option linter.unusedVariables false
def f368.S0 (a : T_api_State × Int) (x : Int) : Tm := ⟨[.dead,.int .i64 a.2,.dead,.dead,.dead,.ptr 7 0,.dead,.dead,.dead,.dead,.dead,.dead,.dead,.dead,.dead,.dead,.dead,.dead,.dead,.dead,.dead,.dead,.dead,.dead,.dead,.dead,.dead,.dead,.dead,.dead,.dead,.dead,.dead,.dead,.dead,.dead,.dead,.dead,.dead,.dead,.dead,.dead,.dead,.dead,.dead,.dead,.dead,.dead,.dead,.slice .ro 13 a.1.2.2.2.2.length (gl e_api_Job a.1.2.2.2.2),.int .i64 (a.1.2.2.2.2.length : Int),.int .i64 x,.dead,.dead,.dead,.dead,.dead,.dead,.dead,.dead,.dead,.dead,.dead,.dead,.dead,.dead,.dead,.dead,.dead,.dead,.dead,.dead,.dead,.dead,.dead,.dead,.dead,.dead,.dead,.dead,.dead,.dead],[(7,false,[.str (((at_ a.1.2.2.2.2 a.2).1).1),.str (((at_ a.1.2.2.2.2 a.2).1).2.1),.int .i64 (((at_ a.1.2.2.2.2 a.2).1).2.2.1),.int .i64 ((((at_ a.1.2.2.2.2 a.2).1).2.2.2.1).1),.int .i64 ((((at_ a.1.2.2.2.2 a.2).1).2.2.2.1).2.1),.int .i64 ((((at_ a.1.2.2.2.2 a.2).1).2.2.2.1).2.2),.slice .ro 2 ((((at_ a.1.2.2.2.2 a.2).1).2.2.2.2.1).length) (gl e_api_Label (((at_ a.1.2.2.2.2 a.2).1).2.2.2.2.1)),.str (((at_ a.1.2.2.2.2 a.2).1).2.2.2.2.2.1),.str (((at_ a.1.2.2.2.2 a.2).1).2.2.2.2.2.2.1),.int .i64 (((at_ a.1.2.2.2.2 a.2).1).2.2.2.2.2.2.2),.int .i64 ((at_ a.1.2.2.2.2 a.2).2.1),.str ((at_ a.1.2.2.2.2 a.2).2.2.1),.int .i64 ((at_ a.1.2.2.2.2 a.2).2.2.2)])],[]⟩
def f368.kills (a : T_api_State × Int) : List Hint := [.tell Int (f368.S0 a)]
def f368.cuts (a : T_api_State × Int) : List (Nat × Σ β : Type,β→Tm) := []
def f368.af (a : T_api_State × Int) : AF := AF.mk (.seq (.region [oT 2 0 .box [0],
 ⟨(some 4),1,.move,[.c (.bool false)],none⟩])
 (.seq (.region [oT 9 2 (.fieldAddr 4) [2],
 oT 10 3 (.load false 1) [9],
 oT 11 4 .move [1],
 oT 12 5 (.indexAddr 13 none) [10,11],
 oT 13 6 (.load true 13) [12],
 oT 5 7 (.alloc [.str ByteArray.empty,.str ByteArray.empty,.int .i64 (0),.int .i64 (0),.int .i64 (0),.int .i64 (0),.slice (.own 0) 2 0 gnil,.str ByteArray.empty,.str ByteArray.empty,.int .i64 (0),.int .i64 (0),.str ByteArray.empty,.int .i64 (0)]) [],
 ⟨none,21,(.store 13),[.t 5,.t 13],none⟩])
 (.seq (.region [oT 14 22 (.load true 5) [2],
 oT 15 23 (.fieldAddr 11) [5],
 oT 16 24 (.load false 1) [15],
 oT 17 25 (.call false 178) [14,16],
 oT 6 29 .move [17]])
 (.seq (.seq (.region [oT 18 30 .move [6],
 ⟨(some 19),31,(.bin .lss),[.t 18,.c (.int .i64 (0))],none⟩,
 oT 20 32 .move [19],
 oG 21 33 (.fieldAddr 2) [2] 20 false,
 oG 22 34 (.load false 1) [21] 20 false,
 oG 23 35 .move [6] 20 false,
 oG 24 36 (.indexAddr 7 none) [22,23] 20 false,
 oG 25 37 (.fieldAddr 5) [24] 20 false,
 oG 26 38 (.load false 1) [25] 20 false,
 oG 27 39 (.un .not) [26] 20 false,
 ⟨(some 28),40,.pick,[.t 20,.c (.bool true),.t 27],none⟩,
 oT 29 41 .move [28],
 oG 30 42 (.fieldAddr 12) [5] 29 false,
 oG 31 43 (.load false 1) [30] 29 false,
 ⟨(some 32),44,(.bin .lss),[.t 31,.c (.int .i64 (1))],(some (29,false))⟩,
 ⟨(some 33),45,.pick,[.t 29,.c (.bool true),.t 32],none⟩,
 oT 34 46 .move [33],
 oG 35 47 (.fieldAddr 2) [2] 34 false,
 oG 36 48 (.load false 1) [35] 34 false,
 oG 37 49 .move [6] 34 false,
 oG 38 50 (.indexAddr 7 none) [36,37] 34 false,
 oG 39 51 (.fieldAddr 0) [38] 34 false,
 oG 40 52 (.fieldAddr 4) [39] 34 false,
 oG 41 53 (.load false 1) [40] 34 false,
 oG 42 54 (.fieldAddr 0) [5] 34 false,
 oG 43 55 (.fieldAddr 6) [42] 34 false,
 oG 44 56 (.load false 1) [43] 34 false,
 oG 45 57 (.call false 124) [41,44] 34 false,
 oG 46 61 (.un .not) [45] 34 false,
 ⟨(some 47),62,.pick,[.t 34,.c (.bool true),.t 46],none⟩])
 (.cond (.t 47) (.seq (.region [⟨(some 4),63,.move,[.c (.bool false)],none⟩])
 (.ret)) (.skip)))
 (.seq (.seq (.region [oT 48 64 (.fieldAddr 4) [2],
 oT 49 65 (.load false 1) [48],
 oT 50 66 (.len false) [49],
 ⟨(some 51),67,.move,[.c (.int .i64 (0))],none⟩])
 (.block 0 (.loopT Int (f368.S0 a) 68 116 (.seq (.region [oT 52 68 (.bin .lss) [51,50]])
 (.seq (.cond (.t 52) (.skip) (.exit 0))
 (.seq (.block 1 (.seq (.region [oT 53 69 .move [51],
 oT 54 70 (.indexAddr 13 none) [49,51],
 oT 55 71 (.load true 13) [54],
 oT 8 72 (.alloc [.str ByteArray.empty,.str ByteArray.empty,.int .i64 (0),.int .i64 (0),.int .i64 (0),.int .i64 (0),.slice (.own 0) 2 0 gnil,.str ByteArray.empty,.str ByteArray.empty,.int .i64 (0),.int .i64 (0),.str ByteArray.empty,.int .i64 (0)]) [],
 oT 7 86 .move [53],
 ⟨none,87,(.store 13),[.t 8,.t 55],none⟩])
 (.seq (.region [oT 56 88 .move [7],
 oT 57 89 .move [1],
 oT 58 90 (.bin .neq) [56,57],
 oT 59 91 .move [58],
 oG 60 92 (.fieldAddr 11) [8] 59 true,
 oG 61 93 (.load false 1) [60] 59 true,
 oG 62 94 (.fieldAddr 11) [5] 59 true,
 oG 63 95 (.load false 1) [62] 59 true,
 oG 64 96 (.bin .eql) [61,63] 59 true,
 ⟨(some 65),97,.pick,[.t 59,.t 64,.c (.bool false)],none⟩,
 oT 66 98 .move [65],
 oG 67 99 (.fieldAddr 0) [5] 66 true,
 oG 68 100 (.fieldAddr 7) [67] 66 true,
 oG 69 101 (.load false 1) [68] 66 true,
 ⟨(some 70),102,(.bin .neq),[.t 69,.c (.str ByteArray.empty)],(some (66,true))⟩,
 ⟨(some 71),103,.pick,[.t 66,.t 70,.c (.bool false)],none⟩,
 oT 72 104 .move [71],
 oG 73 105 (.fieldAddr 0) [8] 72 true,
 oG 74 106 (.fieldAddr 7) [73] 72 true,
 oG 75 107 (.load false 1) [74] 72 true,
 oG 76 108 (.fieldAddr 0) [5] 72 true,
 oG 77 109 (.fieldAddr 7) [76] 72 true,
 oG 78 110 (.load false 1) [77] 72 true,
 oG 79 111 (.bin .eql) [75,78] 72 true,
 ⟨(some 80),112,.pick,[.t 72,.t 79,.c (.bool false)],none⟩])
 (.cond (.t 80) (.seq (.region [⟨(some 4),113,.move,[.c (.bool false)],none⟩])
 (.ret)) (.skip)))))
 (.region [⟨(some 81),114,(.bin .add),[.t 51,.c (.int .i64 (1))],none⟩,
 oT 51 115 .move [81]])))))))
 (.seq (.region [⟨(some 4),116,.move,[.c (.bool true)],none⟩])
 (.ret)))))))
 [.tmp 4] 0 80
def f368.env : Env := [(178,f178.C),(124,f124.C)]
def f368.tree (a : T_api_State × Int) : Prop := Br (decide ((0 : Int)≤a.2) && decide (a.2 < (a.1.2.2.2.2.length : Int))) (∃ c2 : T_api_State × ByteArray,(a.1.1 = c2.1.1)∧(a.1.2.1 = c2.1.2.1)∧SlQ a.1.2.2.1.length c2.1.2.2.1.length (gl e_api_Machine a.1.2.2.1) (gl e_api_Machine c2.1.2.2.1) (SlQ a.1.2.2.2.1.length c2.1.2.2.2.1.length (gl e_api_Queue a.1.2.2.2.1) (gl e_api_Queue c2.1.2.2.2.1) (SlQ a.1.2.2.2.2.length c2.1.2.2.2.2.length (gl e_api_Job a.1.2.2.2.2) (gl e_api_Job c2.1.2.2.2.2) ((((at_ a.1.2.2.2.2 a.2).2.2.1) = c2.2)∧(machR_pre c2)∧Br (decide ((machR c2) < (0 : Int))) ((false = (standsB a))∧True) (Br (decide ((0 : Int)≤(machR c2)) && decide ((machR c2) < (a.1.2.2.1.length : Int))) (Br (!((at_ a.1.2.2.1 (machR c2)).2.1)) ((false = (standsB a))∧True) (Br (decide (((at_ a.1.2.2.2.2 a.2).2.2.2) < (1 : Int))) ((false = (standsB a))∧True) (Br (decide ((0 : Int)≤(machR c2)) && decide ((machR c2) < (a.1.2.2.1.length : Int))) (∃ c14 : (List (T_api_Label)) × (List (T_api_Label)),SlQ ((((at_ a.1.2.2.1 (machR c2)).1).2.2).length) c14.1.length (gl e_api_Label (((at_ a.1.2.2.1 (machR c2)).1).2.2)) (gl e_api_Label c14.1) (SlQ ((((at_ a.1.2.2.2.2 a.2).1).2.2.2.2.1).length) c14.2.length (gl e_api_Label (((at_ a.1.2.2.2.2 a.2).1).2.2.2.2.1)) (gl e_api_Label c14.2) ((has_pre c14)∧Br (!(hasAll c14)) ((false = (standsB a))∧True) (∃ (I19 : Int→Prop) (μ20 : Int→Nat),(∃ x18 : Int,(a.2 = a.2)∧SlS e_api_Job a.1.2.2.2.2 (((a.1.2.2.2.2.length : Int) = (a.1.2.2.2.2.length : Int))∧((0 : Int) = x18)∧((((at_ a.1.2.2.2.2 a.2).1).1) = (((at_ a.1.2.2.2.2 a.2).1).1))∧((((at_ a.1.2.2.2.2 a.2).1).2.1) = (((at_ a.1.2.2.2.2 a.2).1).2.1))∧((((at_ a.1.2.2.2.2 a.2).1).2.2.1) = (((at_ a.1.2.2.2.2 a.2).1).2.2.1))∧(((((at_ a.1.2.2.2.2 a.2).1).2.2.2.1).1) = ((((at_ a.1.2.2.2.2 a.2).1).2.2.2.1).1))∧(((((at_ a.1.2.2.2.2 a.2).1).2.2.2.1).2.1) = ((((at_ a.1.2.2.2.2 a.2).1).2.2.2.1).2.1))∧(((((at_ a.1.2.2.2.2 a.2).1).2.2.2.1).2.2) = ((((at_ a.1.2.2.2.2 a.2).1).2.2.2.1).2.2))∧SlS e_api_Label (((at_ a.1.2.2.2.2 a.2).1).2.2.2.2.1) (((((at_ a.1.2.2.2.2 a.2).1).2.2.2.2.2.1) = (((at_ a.1.2.2.2.2 a.2).1).2.2.2.2.2.1))∧((((at_ a.1.2.2.2.2 a.2).1).2.2.2.2.2.2.1) = (((at_ a.1.2.2.2.2 a.2).1).2.2.2.2.2.2.1))∧((((at_ a.1.2.2.2.2 a.2).1).2.2.2.2.2.2.2) = (((at_ a.1.2.2.2.2 a.2).1).2.2.2.2.2.2.2))∧(((at_ a.1.2.2.2.2 a.2).2.1) = ((at_ a.1.2.2.2.2 a.2).2.1))∧(((at_ a.1.2.2.2.2 a.2).2.2.1) = ((at_ a.1.2.2.2.2 a.2).2.2.1))∧(((at_ a.1.2.2.2.2 a.2).2.2.2) = ((at_ a.1.2.2.2.2 a.2).2.2.2))∧I19 x18)))∧∀ y21 : Int,I19 y21→(Br (decide (y21 < (a.1.2.2.2.2.length : Int))) (Br (decide ((0 : Int)≤y21) && decide (y21 < (a.1.2.2.2.2.length : Int))) (Br (y21 != a.2) (Br (((at_ a.1.2.2.2.2 y21).2.2.1).toList == ((at_ a.1.2.2.2.2 a.2).2.2.1).toList) (Br (!((((at_ a.1.2.2.2.2 a.2).1).2.2.2.2.2.1).toList == ByteArray.empty.toList)) (Br ((((at_ a.1.2.2.2.2 y21).1).2.2.2.2.2.1).toList == (((at_ a.1.2.2.2.2 a.2).1).2.2.2.2.2.1).toList) ((false = (standsB a))∧True) (Let (IntKind.i64.wrap (y21 + (1 : Int))) (fun v34 : Int => ∃ x35 : Int,(a.2 = a.2)∧SlS e_api_Job a.1.2.2.2.2 (((a.1.2.2.2.2.length : Int) = (a.1.2.2.2.2.length : Int))∧(v34 = x35)∧((((at_ a.1.2.2.2.2 a.2).1).1) = (((at_ a.1.2.2.2.2 a.2).1).1))∧((((at_ a.1.2.2.2.2 a.2).1).2.1) = (((at_ a.1.2.2.2.2 a.2).1).2.1))∧((((at_ a.1.2.2.2.2 a.2).1).2.2.1) = (((at_ a.1.2.2.2.2 a.2).1).2.2.1))∧(((((at_ a.1.2.2.2.2 a.2).1).2.2.2.1).1) = ((((at_ a.1.2.2.2.2 a.2).1).2.2.2.1).1))∧(((((at_ a.1.2.2.2.2 a.2).1).2.2.2.1).2.1) = ((((at_ a.1.2.2.2.2 a.2).1).2.2.2.1).2.1))∧(((((at_ a.1.2.2.2.2 a.2).1).2.2.2.1).2.2) = ((((at_ a.1.2.2.2.2 a.2).1).2.2.2.1).2.2))∧SlS e_api_Label (((at_ a.1.2.2.2.2 a.2).1).2.2.2.2.1) (((((at_ a.1.2.2.2.2 a.2).1).2.2.2.2.2.1) = (((at_ a.1.2.2.2.2 a.2).1).2.2.2.2.2.1))∧((((at_ a.1.2.2.2.2 a.2).1).2.2.2.2.2.2.1) = (((at_ a.1.2.2.2.2 a.2).1).2.2.2.2.2.2.1))∧((((at_ a.1.2.2.2.2 a.2).1).2.2.2.2.2.2.2) = (((at_ a.1.2.2.2.2 a.2).1).2.2.2.2.2.2.2))∧(((at_ a.1.2.2.2.2 a.2).2.1) = ((at_ a.1.2.2.2.2 a.2).2.1))∧(((at_ a.1.2.2.2.2 a.2).2.2.1) = ((at_ a.1.2.2.2.2 a.2).2.2.1))∧(((at_ a.1.2.2.2.2 a.2).2.2.2) = ((at_ a.1.2.2.2.2 a.2).2.2.2))∧I19 x35∧μ20 x35 < μ20 y21))))) (Let (IntKind.i64.wrap (y21 + (1 : Int))) (fun v42 : Int => ∃ x43 : Int,(a.2 = a.2)∧SlS e_api_Job a.1.2.2.2.2 (((a.1.2.2.2.2.length : Int) = (a.1.2.2.2.2.length : Int))∧(v42 = x43)∧((((at_ a.1.2.2.2.2 a.2).1).1) = (((at_ a.1.2.2.2.2 a.2).1).1))∧((((at_ a.1.2.2.2.2 a.2).1).2.1) = (((at_ a.1.2.2.2.2 a.2).1).2.1))∧((((at_ a.1.2.2.2.2 a.2).1).2.2.1) = (((at_ a.1.2.2.2.2 a.2).1).2.2.1))∧(((((at_ a.1.2.2.2.2 a.2).1).2.2.2.1).1) = ((((at_ a.1.2.2.2.2 a.2).1).2.2.2.1).1))∧(((((at_ a.1.2.2.2.2 a.2).1).2.2.2.1).2.1) = ((((at_ a.1.2.2.2.2 a.2).1).2.2.2.1).2.1))∧(((((at_ a.1.2.2.2.2 a.2).1).2.2.2.1).2.2) = ((((at_ a.1.2.2.2.2 a.2).1).2.2.2.1).2.2))∧SlS e_api_Label (((at_ a.1.2.2.2.2 a.2).1).2.2.2.2.1) (((((at_ a.1.2.2.2.2 a.2).1).2.2.2.2.2.1) = (((at_ a.1.2.2.2.2 a.2).1).2.2.2.2.2.1))∧((((at_ a.1.2.2.2.2 a.2).1).2.2.2.2.2.2.1) = (((at_ a.1.2.2.2.2 a.2).1).2.2.2.2.2.2.1))∧((((at_ a.1.2.2.2.2 a.2).1).2.2.2.2.2.2.2) = (((at_ a.1.2.2.2.2 a.2).1).2.2.2.2.2.2.2))∧(((at_ a.1.2.2.2.2 a.2).2.1) = ((at_ a.1.2.2.2.2 a.2).2.1))∧(((at_ a.1.2.2.2.2 a.2).2.2.1) = ((at_ a.1.2.2.2.2 a.2).2.2.1))∧(((at_ a.1.2.2.2.2 a.2).2.2.2) = ((at_ a.1.2.2.2.2 a.2).2.2.2))∧I19 x43∧μ20 x43 < μ20 y21))))) (Let (IntKind.i64.wrap (y21 + (1 : Int))) (fun v50 : Int => ∃ x51 : Int,(a.2 = a.2)∧SlS e_api_Job a.1.2.2.2.2 (((a.1.2.2.2.2.length : Int) = (a.1.2.2.2.2.length : Int))∧(v50 = x51)∧((((at_ a.1.2.2.2.2 a.2).1).1) = (((at_ a.1.2.2.2.2 a.2).1).1))∧((((at_ a.1.2.2.2.2 a.2).1).2.1) = (((at_ a.1.2.2.2.2 a.2).1).2.1))∧((((at_ a.1.2.2.2.2 a.2).1).2.2.1) = (((at_ a.1.2.2.2.2 a.2).1).2.2.1))∧(((((at_ a.1.2.2.2.2 a.2).1).2.2.2.1).1) = ((((at_ a.1.2.2.2.2 a.2).1).2.2.2.1).1))∧(((((at_ a.1.2.2.2.2 a.2).1).2.2.2.1).2.1) = ((((at_ a.1.2.2.2.2 a.2).1).2.2.2.1).2.1))∧(((((at_ a.1.2.2.2.2 a.2).1).2.2.2.1).2.2) = ((((at_ a.1.2.2.2.2 a.2).1).2.2.2.1).2.2))∧SlS e_api_Label (((at_ a.1.2.2.2.2 a.2).1).2.2.2.2.1) (((((at_ a.1.2.2.2.2 a.2).1).2.2.2.2.2.1) = (((at_ a.1.2.2.2.2 a.2).1).2.2.2.2.2.1))∧((((at_ a.1.2.2.2.2 a.2).1).2.2.2.2.2.2.1) = (((at_ a.1.2.2.2.2 a.2).1).2.2.2.2.2.2.1))∧((((at_ a.1.2.2.2.2 a.2).1).2.2.2.2.2.2.2) = (((at_ a.1.2.2.2.2 a.2).1).2.2.2.2.2.2.2))∧(((at_ a.1.2.2.2.2 a.2).2.1) = ((at_ a.1.2.2.2.2 a.2).2.1))∧(((at_ a.1.2.2.2.2 a.2).2.2.1) = ((at_ a.1.2.2.2.2 a.2).2.2.1))∧(((at_ a.1.2.2.2.2 a.2).2.2.2) = ((at_ a.1.2.2.2.2 a.2).2.2.2))∧I19 x51∧μ20 x51 < μ20 y21))))) (Let (IntKind.i64.wrap (y21 + (1 : Int))) (fun v58 : Int => ∃ x59 : Int,(a.2 = a.2)∧SlS e_api_Job a.1.2.2.2.2 (((a.1.2.2.2.2.length : Int) = (a.1.2.2.2.2.length : Int))∧(v58 = x59)∧((((at_ a.1.2.2.2.2 a.2).1).1) = (((at_ a.1.2.2.2.2 a.2).1).1))∧((((at_ a.1.2.2.2.2 a.2).1).2.1) = (((at_ a.1.2.2.2.2 a.2).1).2.1))∧((((at_ a.1.2.2.2.2 a.2).1).2.2.1) = (((at_ a.1.2.2.2.2 a.2).1).2.2.1))∧(((((at_ a.1.2.2.2.2 a.2).1).2.2.2.1).1) = ((((at_ a.1.2.2.2.2 a.2).1).2.2.2.1).1))∧(((((at_ a.1.2.2.2.2 a.2).1).2.2.2.1).2.1) = ((((at_ a.1.2.2.2.2 a.2).1).2.2.2.1).2.1))∧(((((at_ a.1.2.2.2.2 a.2).1).2.2.2.1).2.2) = ((((at_ a.1.2.2.2.2 a.2).1).2.2.2.1).2.2))∧SlS e_api_Label (((at_ a.1.2.2.2.2 a.2).1).2.2.2.2.1) (((((at_ a.1.2.2.2.2 a.2).1).2.2.2.2.2.1) = (((at_ a.1.2.2.2.2 a.2).1).2.2.2.2.2.1))∧((((at_ a.1.2.2.2.2 a.2).1).2.2.2.2.2.2.1) = (((at_ a.1.2.2.2.2 a.2).1).2.2.2.2.2.2.1))∧((((at_ a.1.2.2.2.2 a.2).1).2.2.2.2.2.2.2) = (((at_ a.1.2.2.2.2 a.2).1).2.2.2.2.2.2.2))∧(((at_ a.1.2.2.2.2 a.2).2.1) = ((at_ a.1.2.2.2.2 a.2).2.1))∧(((at_ a.1.2.2.2.2 a.2).2.2.1) = ((at_ a.1.2.2.2.2 a.2).2.2.1))∧(((at_ a.1.2.2.2.2 a.2).2.2.2) = ((at_ a.1.2.2.2.2 a.2).2.2.2))∧I19 x59∧μ20 x59 < μ20 y21))))) False) ((true = (standsB a))∧True)))))) False))) False))))) False
def f368.vc (a : T_api_State × Int) : Prop := ((0 : Int)≤a.2∧a.2 < (a.1.2.2.2.2.length : Int)∧(machR_pre (a.1,(at_ a.1.2.2.2.2 a.2).2.2.1)∧(((machR (a.1,(at_ a.1.2.2.2.2 a.2).2.2.1)) < (0 : Int)→(false = standsB a))∧(¬ ((machR (a.1,(at_ a.1.2.2.2.2 a.2).2.2.1)) < (0 : Int))→((0 : Int)≤(machR (a.1,(at_ a.1.2.2.2.2 a.2).2.2.1))∧(machR (a.1,(at_ a.1.2.2.2.2 a.2).2.2.1)) < (a.1.2.2.1.length : Int)∧((¬ (((at_ a.1.2.2.1 (machR (a.1,(at_ a.1.2.2.2.2 a.2).2.2.1))).2.1) = true)→(false = standsB a))∧(¬ (¬ (((at_ a.1.2.2.1 (machR (a.1,(at_ a.1.2.2.2.2 a.2).2.2.1))).2.1) = true))→((((at_ a.1.2.2.2.2 a.2).2.2.2) < (1 : Int)→(false = standsB a))∧(¬ (((at_ a.1.2.2.2.2 a.2).2.2.2) < (1 : Int))→((0 : Int)≤(machR (a.1,(at_ a.1.2.2.2.2 a.2).2.2.1))∧(machR (a.1,(at_ a.1.2.2.2.2 a.2).2.2.1)) < (a.1.2.2.1.length : Int)∧(has_pre (((at_ a.1.2.2.1 (machR (a.1,(at_ a.1.2.2.2.2 a.2).2.2.1))).1).2.2,((at_ a.1.2.2.2.2 a.2).1).2.2.2.2.1)∧((¬ ((hasAll (((at_ a.1.2.2.1 (machR (a.1,(at_ a.1.2.2.2.2 a.2).2.2.1))).1).2.2,((at_ a.1.2.2.2.2 a.2).1).2.2.2.2.1)) = true)→(false = standsB a))∧(¬ (¬ ((hasAll (((at_ a.1.2.2.1 (machR (a.1,(at_ a.1.2.2.2.2 a.2).2.2.1))).1).2.2,((at_ a.1.2.2.2.2 a.2).1).2.2.2.2.1)) = true))→(∃ (I19 : Int→Prop) (μ20 : Int→Nat),I19 (0 : Int)∧∀ y21 : Int,I19 y21→((y21 < (a.1.2.2.2.2.length : Int)→((0 : Int)≤y21∧y21 < (a.1.2.2.2.2.length : Int)∧((¬ y21 = a.2→((((at_ a.1.2.2.2.2 y21).2.2.1) = ((at_ a.1.2.2.2.2 a.2).2.2.1)→((¬ ((((at_ a.1.2.2.2.2 a.2).1).2.2.2.2.2.1) = ByteArray.empty)→(((((at_ a.1.2.2.2.2 y21).1).2.2.2.2.2.1) = (((at_ a.1.2.2.2.2 a.2).1).2.2.2.2.2.1)→(false = standsB a))∧(¬ ((((at_ a.1.2.2.2.2 y21).1).2.2.2.2.2.1) = (((at_ a.1.2.2.2.2 a.2).1).2.2.2.2.2.1))→(-9223372036854775808≤(y21 + (1 : Int))∧(y21 + (1 : Int))≤9223372036854775807∧(I19 (y21 + (1 : Int))∧μ20 (y21 + (1 : Int)) < μ20 y21)))))∧(¬ (¬ ((((at_ a.1.2.2.2.2 a.2).1).2.2.2.2.2.1) = ByteArray.empty))→(-9223372036854775808≤(y21 + (1 : Int))∧(y21 + (1 : Int))≤9223372036854775807∧(I19 (y21 + (1 : Int))∧μ20 (y21 + (1 : Int)) < μ20 y21)))))∧(¬ (((at_ a.1.2.2.2.2 y21).2.2.1) = ((at_ a.1.2.2.2.2 a.2).2.2.1))→(-9223372036854775808≤(y21 + (1 : Int))∧(y21 + (1 : Int))≤9223372036854775807∧(I19 (y21 + (1 : Int))∧μ20 (y21 + (1 : Int)) < μ20 y21)))))∧(¬ (¬ y21 = a.2)→(-9223372036854775808≤(y21 + (1 : Int))∧(y21 + (1 : Int))≤9223372036854775807∧(I19 (y21 + (1 : Int))∧μ20 (y21 + (1 : Int)) < μ20 y21))))))∧(¬ (y21 < (a.1.2.2.2.2.length : Int))→(true = standsB a)))))))))))))))))
set_option maxRecDepth 100000 in
set_option maxHeartbeats 2000000 in
theorem f368.of (a : T_api_State × Int) (h : f368.vc a) : f368.tree a := chk h.2.2 Cnd.ix ⟨h.1,h.2.1⟩ (fun h1 k85 => ⟨(a.1,(at_ a.1.2.2.2.2 a.2).2.2.1),⟨rfl,⟨rfl,slQ (Rds.self (enc := e_api_Machine)) (slQ (Rds.self (enc := e_api_Queue)) (slQ (Rds.self (enc := e_api_Job)) (⟨rfl,⟨k85.1,br k85.2 Cnd.dec (fun h3 k82 => ⟨k82,trivial⟩) (fun h4 k83 => chk k83.2.2 Cnd.ix ⟨k83.1,k83.2.1⟩ (fun h6 k81 => br k81 (Cnd.not Cnd.b) (fun h7 k79 => ⟨k79,trivial⟩) (fun h8 k80 => br k80 Cnd.dec (fun h10 k77 => ⟨k77,trivial⟩) (fun h11 k78 => chk k78.2.2 Cnd.ix ⟨k78.1,k78.2.1⟩ (fun h13 k76 => ⟨(((at_ a.1.2.2.1 (machR (a.1,(at_ a.1.2.2.2.2 a.2).2.2.1))).1).2.2,((at_ a.1.2.2.2.2 a.2).1).2.2.2.2.1),slQ (Rds.self (enc := e_api_Label)) (slQ (Rds.self (enc := e_api_Label)) (⟨k76.1,br k76.2 (Cnd.not Cnd.b) (fun h15 k73 => ⟨k73,trivial⟩) (fun h16 k74 => Exists.elim k74 (fun I19 h70_ => Exists.elim h70_ (fun μ20 h70 => ⟨I19,μ20,⟨(0 : Int),⟨rfl,SlS.mk  (⟨rfl,⟨rfl,⟨rfl,⟨rfl,⟨rfl,⟨rfl,⟨rfl,⟨rfl,SlS.mk  (⟨rfl,⟨rfl,⟨rfl,⟨rfl,⟨rfl,⟨rfl,h70.1⟩⟩⟩⟩⟩⟩)⟩⟩⟩⟩⟩⟩⟩⟩)⟩⟩,fun y21 h72 => br (h70.2 y21 h72) Cnd.dec (fun h22 k68 => chk k68.2.2 Cnd.ix ⟨k68.1,k68.2.1⟩ (fun h24 k66 => br k66 Cnd.ne (fun h25 k64 => br k64 Cnd.seq (fun h27 k56 => br k56 (Cnd.not Cnd.seq) (fun h29 k48 => br k48 Cnd.seq (fun h31 k40 => ⟨k40,trivial⟩) (fun h32 k41 => wrapK.i64 k41 (fun h37 h38 k39 => ⟨(y21 + (1 : Int)),⟨rfl,SlS.mk  (⟨rfl,⟨rfl,⟨rfl,⟨rfl,⟨rfl,⟨rfl,⟨rfl,⟨rfl,SlS.mk  (⟨rfl,⟨rfl,⟨rfl,⟨rfl,⟨rfl,⟨rfl,k39⟩⟩⟩⟩⟩⟩)⟩⟩⟩⟩⟩⟩⟩⟩)⟩⟩))) (fun h30 k49 => wrapK.i64 k49 (fun h45 h46 k47 => ⟨(y21 + (1 : Int)),⟨rfl,SlS.mk  (⟨rfl,⟨rfl,⟨rfl,⟨rfl,⟨rfl,⟨rfl,⟨rfl,⟨rfl,SlS.mk  (⟨rfl,⟨rfl,⟨rfl,⟨rfl,⟨rfl,⟨rfl,k47⟩⟩⟩⟩⟩⟩)⟩⟩⟩⟩⟩⟩⟩⟩)⟩⟩))) (fun h28 k57 => wrapK.i64 k57 (fun h53 h54 k55 => ⟨(y21 + (1 : Int)),⟨rfl,SlS.mk  (⟨rfl,⟨rfl,⟨rfl,⟨rfl,⟨rfl,⟨rfl,⟨rfl,⟨rfl,SlS.mk  (⟨rfl,⟨rfl,⟨rfl,⟨rfl,⟨rfl,⟨rfl,k55⟩⟩⟩⟩⟩⟩)⟩⟩⟩⟩⟩⟩⟩⟩)⟩⟩))) (fun h26 k65 => wrapK.i64 k65 (fun h61 h62 k63 => ⟨(y21 + (1 : Int)),⟨rfl,SlS.mk  (⟨rfl,⟨rfl,⟨rfl,⟨rfl,⟨rfl,⟨rfl,⟨rfl,⟨rfl,SlS.mk  (⟨rfl,⟨rfl,⟨rfl,⟨rfl,⟨rfl,⟨rfl,k63⟩⟩⟩⟩⟩⟩)⟩⟩⟩⟩⟩⟩⟩⟩)⟩⟩)))) (fun h23 k69 => ⟨k69,trivial⟩)⟩)))⟩))⟩)))))⟩⟩)))⟩⟩⟩)
theorem f368.eq (a : T_api_State × Int) : (f368.af a).gives f368.env (f368.args a) (f368.blks a) (f368.res a) (f368.blks' a) = f368.tree a := by kernel_rfl
end Go.Abs

-- interregnum/interregnumref15.bound
namespace Go.Abs
open Go
def f367.args (a : T_api_State × Int) : List D := [.agg [.int .i64 a.1.1,.int .i64 a.1.2.1,.slice .ro 7 a.1.2.2.1.length (gl e_api_Machine a.1.2.2.1),.slice .ro 4 a.1.2.2.2.1.length (gl e_api_Queue a.1.2.2.2.1),.slice .ro 13 a.1.2.2.2.2.length (gl e_api_Job a.1.2.2.2.2)],.int .i64 a.2]
def f367.blks (a : T_api_State × Int) : List (List D) := []
def f367.res (a : T_api_State × Int) : List D := [.bool (standsB a)]
def f367.blks' (a : T_api_State × Int) : List (List D) := []
def f367.C : Contract := FnC f367.args f367.blks (fun a => stands_pre a) f367.res f367.blks'
end Go.Abs

-- interregnum/interregnumref04.Has
namespace Go.Abs
open Go
def f360.args (a : (List (T_api_Label)) × (List (T_api_Label))) : List D := [.slice .ro 2 a.1.length (gl e_api_Label a.1),.slice .ro 2 a.2.length (gl e_api_Label a.2)]
def f360.blks (a : (List (T_api_Label)) × (List (T_api_Label))) : List (List D) := []
def f360.res (a : (List (T_api_Label)) × (List (T_api_Label))) : List D := [.bool (hasAll a)]
def f360.blks' (a : (List (T_api_Label)) × (List (T_api_Label))) : List (List D) := []
def f360.C : Contract := FnC f360.args f360.blks (fun a => has_pre a) f360.res f360.blks'
end Go.Abs

/- interregnum/interregnumref15.bound -/
namespace Go.Abs
open Go
set_option linter.unusedVariables false
def f367.S0 (a : T_api_State × Int) (x : Int) : Tm := ⟨[.dead,.int .i64 a.2,.ptr 0 0,.dead,.dead,.ptr 7 0,.dead,.dead,.dead,.dead,.dead,.dead,.dead,.dead,.dead,.dead,.dead,.dead,.dead,.dead,.dead,.dead,.dead,.dead,.dead,.dead,.dead,.dead,.dead,.dead,.dead,.dead,.dead,.dead,.dead,.dead,.dead,.dead,.dead,.dead,.dead,.dead,.dead,.dead,.dead,.dead,.dead,.dead,.dead,.int .i64 (a.1.2.2.2.2.length : Int),.int .i64 x,.dead,.dead,.dead,.dead,.dead,.dead,.dead,.dead,.dead,.dead,.dead,.dead,.dead,.dead,.dead,.dead,.dead,.dead,.dead,.dead,.dead,.dead,.dead,.dead,.dead,.dead,.dead,.dead,.dead,.dead,.dead,.dead,.dead,.dead,.dead,.dead],[(0,false,[.int .i64 a.1.1,.int .i64 a.1.2.1,.slice .ro 7 a.1.2.2.1.length (gl e_api_Machine a.1.2.2.1),.slice .ro 4 a.1.2.2.2.1.length (gl e_api_Queue a.1.2.2.2.1),.slice .ro 13 a.1.2.2.2.2.length (gl e_api_Job a.1.2.2.2.2)]),(7,false,[.str (((at_ a.1.2.2.2.2 a.2).1).1),.str (((at_ a.1.2.2.2.2 a.2).1).2.1),.int .i64 (((at_ a.1.2.2.2.2 a.2).1).2.2.1),.int .i64 ((((at_ a.1.2.2.2.2 a.2).1).2.2.2.1).1),.int .i64 ((((at_ a.1.2.2.2.2 a.2).1).2.2.2.1).2.1),.int .i64 ((((at_ a.1.2.2.2.2 a.2).1).2.2.2.1).2.2),.slice .ro 2 ((((at_ a.1.2.2.2.2 a.2).1).2.2.2.2.1).length) (gl e_api_Label (((at_ a.1.2.2.2.2 a.2).1).2.2.2.2.1)),.str (((at_ a.1.2.2.2.2 a.2).1).2.2.2.2.2.1),.str (((at_ a.1.2.2.2.2 a.2).1).2.2.2.2.2.2.1),.int .i64 (((at_ a.1.2.2.2.2 a.2).1).2.2.2.2.2.2.2),.int .i64 ((at_ a.1.2.2.2.2 a.2).2.1),.str ((at_ a.1.2.2.2.2 a.2).2.2.1),.int .i64 ((at_ a.1.2.2.2.2 a.2).2.2.2)])],[]⟩
def f367.kills (a : T_api_State × Int) : List Hint := [.tell Int (f367.S0 a)]
def f367.cuts (a : T_api_State × Int) : List (Nat × Σ β : Type,β→Tm) := []
def f367.af (a : T_api_State × Int) : AF := AF.mk (.seq (.region [oT 2 0 .box [0],
 ⟨(some 4),1,.move,[.c (.bool false)],none⟩])
 (.seq (.region [oT 8 2 (.fieldAddr 4) [2],
 oT 9 3 (.load false 1) [8],
 oT 10 4 .move [1],
 oT 11 5 (.indexAddr 13 none) [9,10],
 oT 12 6 (.load true 13) [11],
 oT 5 7 (.alloc [.str ByteArray.empty,.str ByteArray.empty,.int .i64 (0),.int .i64 (0),.int .i64 (0),.int .i64 (0),.slice (.own 0) 2 0 gnil,.str ByteArray.empty,.str ByteArray.empty,.int .i64 (0),.int .i64 (0),.str ByteArray.empty,.int .i64 (0)]) [],
 ⟨none,21,(.store 13),[.t 5,.t 12],none⟩])
 (.seq (.region [oT 13 22 (.load true 5) [2],
 oT 14 23 (.fieldAddr 11) [5],
 oT 15 24 (.load false 1) [14],
 oT 16 25 (.call false 370) [13,15],
 oT 6 29 .move [16]])
 (.seq (.seq (.region [oT 17 30 .move [6],
 ⟨(some 18),31,(.bin .lss),[.t 17,.c (.int .i64 (0))],none⟩,
 oT 19 32 .move [18],
 oG 20 33 (.fieldAddr 2) [2] 19 false,
 oG 21 34 (.load false 1) [20] 19 false,
 oG 22 35 .move [6] 19 false,
 oG 23 36 (.indexAddr 7 none) [21,22] 19 false,
 oG 24 37 (.fieldAddr 5) [23] 19 false,
 oG 25 38 (.load false 1) [24] 19 false,
 oG 26 39 (.un .not) [25] 19 false,
 ⟨(some 27),40,.pick,[.t 19,.c (.bool true),.t 26],none⟩,
 oT 28 41 .move [27],
 oG 29 42 (.fieldAddr 12) [5] 28 false,
 oG 30 43 (.load false 1) [29] 28 false,
 ⟨(some 31),44,(.bin .lss),[.t 30,.c (.int .i64 (1))],(some (28,false))⟩,
 ⟨(some 32),45,.pick,[.t 28,.c (.bool true),.t 31],none⟩,
 oT 33 46 .move [32],
 oG 34 47 (.fieldAddr 2) [2] 33 false,
 oG 35 48 (.load false 1) [34] 33 false,
 oG 36 49 .move [6] 33 false,
 oG 37 50 (.indexAddr 7 none) [35,36] 33 false,
 oG 38 51 (.fieldAddr 0) [37] 33 false,
 oG 39 52 (.fieldAddr 4) [38] 33 false,
 oG 40 53 (.load false 1) [39] 33 false,
 oG 41 54 (.fieldAddr 0) [5] 33 false,
 oG 42 55 (.fieldAddr 6) [41] 33 false,
 oG 43 56 (.load false 1) [42] 33 false,
 oG 44 57 (.call false 360) [40,43] 33 false,
 oG 45 61 (.un .not) [44] 33 false,
 ⟨(some 46),62,.pick,[.t 33,.c (.bool true),.t 45],none⟩])
 (.cond (.t 46) (.seq (.region [⟨(some 4),63,.move,[.c (.bool false)],none⟩])
 (.ret)) (.skip)))
 (.seq (.seq (.region [oT 47 64 (.fieldAddr 4) [2],
 oT 48 65 (.load false 1) [47],
 oT 49 66 (.len false) [48],
 ⟨(some 50),67,.move,[.c (.int .i64 (0))],none⟩])
 (.block 0 (.loopT Int (f367.S0 a) 68 107 (.seq (.region [oT 51 68 (.bin .lss) [50,49]])
 (.seq (.cond (.t 51) (.skip) (.exit 0))
 (.seq (.block 1 (.seq (.region [oT 52 69 .move [50],
 oT 7 70 .move [52]])
 (.seq (.region [oT 53 71 .move [7],
 oT 54 72 .move [1],
 oT 55 73 (.bin .neq) [53,54],
 oT 56 74 .move [55],
 oG 57 75 (.fieldAddr 4) [2] 56 true,
 oG 58 76 (.load false 1) [57] 56 true,
 oG 59 77 .move [7] 56 true,
 oG 60 78 (.indexAddr 13 none) [58,59] 56 true,
 oG 61 79 (.fieldAddr 11) [60] 56 true,
 oG 62 80 (.load false 1) [61] 56 true,
 oG 63 81 (.fieldAddr 11) [5] 56 true,
 oG 64 82 (.load false 1) [63] 56 true,
 oG 65 83 (.bin .eql) [62,64] 56 true,
 ⟨(some 66),84,.pick,[.t 56,.t 65,.c (.bool false)],none⟩,
 oT 67 85 .move [66],
 oG 68 86 (.fieldAddr 0) [5] 67 true,
 oG 69 87 (.fieldAddr 7) [68] 67 true,
 oG 70 88 (.load false 1) [69] 67 true,
 ⟨(some 71),89,(.bin .neq),[.t 70,.c (.str ByteArray.empty)],(some (67,true))⟩,
 ⟨(some 72),90,.pick,[.t 67,.t 71,.c (.bool false)],none⟩,
 oT 73 91 .move [72],
 oG 74 92 (.fieldAddr 4) [2] 73 true,
 oG 75 93 (.load false 1) [74] 73 true,
 oG 76 94 .move [7] 73 true,
 oG 77 95 (.indexAddr 13 none) [75,76] 73 true,
 oG 78 96 (.fieldAddr 0) [77] 73 true,
 oG 79 97 (.fieldAddr 7) [78] 73 true,
 oG 80 98 (.load false 1) [79] 73 true,
 oG 81 99 (.fieldAddr 0) [5] 73 true,
 oG 82 100 (.fieldAddr 7) [81] 73 true,
 oG 83 101 (.load false 1) [82] 73 true,
 oG 84 102 (.bin .eql) [80,83] 73 true,
 ⟨(some 85),103,.pick,[.t 73,.t 84,.c (.bool false)],none⟩])
 (.cond (.t 85) (.seq (.region [⟨(some 4),104,.move,[.c (.bool false)],none⟩])
 (.ret)) (.skip)))))
 (.region [⟨(some 86),105,(.bin .add),[.t 50,.c (.int .i64 (1))],none⟩,
 oT 50 106 .move [86]])))))))
 (.seq (.region [⟨(some 4),107,.move,[.c (.bool true)],none⟩])
 (.ret)))))))
 [.tmp 4] 0 85
def f367.env : Env := [(370,f370.C),(360,f360.C)]
def f367.tree (a : T_api_State × Int) : Prop := Br (decide ((0 : Int)≤a.2) && decide (a.2 < (a.1.2.2.2.2.length : Int))) (∃ c2 : T_api_State × ByteArray,(a.1.1 = c2.1.1)∧(a.1.2.1 = c2.1.2.1)∧SlQ a.1.2.2.1.length c2.1.2.2.1.length (gl e_api_Machine a.1.2.2.1) (gl e_api_Machine c2.1.2.2.1) (SlQ a.1.2.2.2.1.length c2.1.2.2.2.1.length (gl e_api_Queue a.1.2.2.2.1) (gl e_api_Queue c2.1.2.2.2.1) (SlQ a.1.2.2.2.2.length c2.1.2.2.2.2.length (gl e_api_Job a.1.2.2.2.2) (gl e_api_Job c2.1.2.2.2.2) ((((at_ a.1.2.2.2.2 a.2).2.2.1) = c2.2)∧(machR_pre c2)∧Br (decide ((machR c2) < (0 : Int))) ((false = (standsB a))∧True) (Br (decide ((0 : Int)≤(machR c2)) && decide ((machR c2) < (a.1.2.2.1.length : Int))) (Br (!((at_ a.1.2.2.1 (machR c2)).2.1)) ((false = (standsB a))∧True) (Br (decide (((at_ a.1.2.2.2.2 a.2).2.2.2) < (1 : Int))) ((false = (standsB a))∧True) (Br (decide ((0 : Int)≤(machR c2)) && decide ((machR c2) < (a.1.2.2.1.length : Int))) (∃ c14 : (List (T_api_Label)) × (List (T_api_Label)),SlQ ((((at_ a.1.2.2.1 (machR c2)).1).2.2).length) c14.1.length (gl e_api_Label (((at_ a.1.2.2.1 (machR c2)).1).2.2)) (gl e_api_Label c14.1) (SlQ ((((at_ a.1.2.2.2.2 a.2).1).2.2.2.2.1).length) c14.2.length (gl e_api_Label (((at_ a.1.2.2.2.2 a.2).1).2.2.2.2.1)) (gl e_api_Label c14.2) ((has_pre c14)∧Br (!(hasAll c14)) ((false = (standsB a))∧True) (∃ (I19 : Int→Prop) (μ20 : Int→Nat),(∃ x18 : Int,(a.2 = a.2)∧((a.1.2.2.2.2.length : Int) = (a.1.2.2.2.2.length : Int))∧((0 : Int) = x18)∧(a.1.1 = a.1.1)∧(a.1.2.1 = a.1.2.1)∧SlS e_api_Machine a.1.2.2.1 (SlS e_api_Queue a.1.2.2.2.1 (SlS e_api_Job a.1.2.2.2.2 (((((at_ a.1.2.2.2.2 a.2).1).1) = (((at_ a.1.2.2.2.2 a.2).1).1))∧((((at_ a.1.2.2.2.2 a.2).1).2.1) = (((at_ a.1.2.2.2.2 a.2).1).2.1))∧((((at_ a.1.2.2.2.2 a.2).1).2.2.1) = (((at_ a.1.2.2.2.2 a.2).1).2.2.1))∧(((((at_ a.1.2.2.2.2 a.2).1).2.2.2.1).1) = ((((at_ a.1.2.2.2.2 a.2).1).2.2.2.1).1))∧(((((at_ a.1.2.2.2.2 a.2).1).2.2.2.1).2.1) = ((((at_ a.1.2.2.2.2 a.2).1).2.2.2.1).2.1))∧(((((at_ a.1.2.2.2.2 a.2).1).2.2.2.1).2.2) = ((((at_ a.1.2.2.2.2 a.2).1).2.2.2.1).2.2))∧SlS e_api_Label (((at_ a.1.2.2.2.2 a.2).1).2.2.2.2.1) (((((at_ a.1.2.2.2.2 a.2).1).2.2.2.2.2.1) = (((at_ a.1.2.2.2.2 a.2).1).2.2.2.2.2.1))∧((((at_ a.1.2.2.2.2 a.2).1).2.2.2.2.2.2.1) = (((at_ a.1.2.2.2.2 a.2).1).2.2.2.2.2.2.1))∧((((at_ a.1.2.2.2.2 a.2).1).2.2.2.2.2.2.2) = (((at_ a.1.2.2.2.2 a.2).1).2.2.2.2.2.2.2))∧(((at_ a.1.2.2.2.2 a.2).2.1) = ((at_ a.1.2.2.2.2 a.2).2.1))∧(((at_ a.1.2.2.2.2 a.2).2.2.1) = ((at_ a.1.2.2.2.2 a.2).2.2.1))∧(((at_ a.1.2.2.2.2 a.2).2.2.2) = ((at_ a.1.2.2.2.2 a.2).2.2.2))∧I19 x18)))))∧∀ y21 : Int,I19 y21→(Br (decide (y21 < (a.1.2.2.2.2.length : Int))) (Br (y21 != a.2) (Br (decide ((0 : Int)≤y21) && decide (y21 < (a.1.2.2.2.2.length : Int))) (Br (((at_ a.1.2.2.2.2 y21).2.2.1).toList == ((at_ a.1.2.2.2.2 a.2).2.2.1).toList) (Br (!((((at_ a.1.2.2.2.2 a.2).1).2.2.2.2.2.1).toList == ByteArray.empty.toList)) (Br (decide ((0 : Int)≤y21) && decide (y21 < (a.1.2.2.2.2.length : Int))) (Br ((((at_ a.1.2.2.2.2 y21).1).2.2.2.2.2.1).toList == (((at_ a.1.2.2.2.2 a.2).1).2.2.2.2.2.1).toList) ((false = (standsB a))∧True) (Let (IntKind.i64.wrap (y21 + (1 : Int))) (fun v35 : Int => ∃ x36 : Int,(a.2 = a.2)∧((a.1.2.2.2.2.length : Int) = (a.1.2.2.2.2.length : Int))∧(v35 = x36)∧(a.1.1 = a.1.1)∧(a.1.2.1 = a.1.2.1)∧SlS e_api_Machine a.1.2.2.1 (SlS e_api_Queue a.1.2.2.2.1 (SlS e_api_Job a.1.2.2.2.2 (((((at_ a.1.2.2.2.2 a.2).1).1) = (((at_ a.1.2.2.2.2 a.2).1).1))∧((((at_ a.1.2.2.2.2 a.2).1).2.1) = (((at_ a.1.2.2.2.2 a.2).1).2.1))∧((((at_ a.1.2.2.2.2 a.2).1).2.2.1) = (((at_ a.1.2.2.2.2 a.2).1).2.2.1))∧(((((at_ a.1.2.2.2.2 a.2).1).2.2.2.1).1) = ((((at_ a.1.2.2.2.2 a.2).1).2.2.2.1).1))∧(((((at_ a.1.2.2.2.2 a.2).1).2.2.2.1).2.1) = ((((at_ a.1.2.2.2.2 a.2).1).2.2.2.1).2.1))∧(((((at_ a.1.2.2.2.2 a.2).1).2.2.2.1).2.2) = ((((at_ a.1.2.2.2.2 a.2).1).2.2.2.1).2.2))∧SlS e_api_Label (((at_ a.1.2.2.2.2 a.2).1).2.2.2.2.1) (((((at_ a.1.2.2.2.2 a.2).1).2.2.2.2.2.1) = (((at_ a.1.2.2.2.2 a.2).1).2.2.2.2.2.1))∧((((at_ a.1.2.2.2.2 a.2).1).2.2.2.2.2.2.1) = (((at_ a.1.2.2.2.2 a.2).1).2.2.2.2.2.2.1))∧((((at_ a.1.2.2.2.2 a.2).1).2.2.2.2.2.2.2) = (((at_ a.1.2.2.2.2 a.2).1).2.2.2.2.2.2.2))∧(((at_ a.1.2.2.2.2 a.2).2.1) = ((at_ a.1.2.2.2.2 a.2).2.1))∧(((at_ a.1.2.2.2.2 a.2).2.2.1) = ((at_ a.1.2.2.2.2 a.2).2.2.1))∧(((at_ a.1.2.2.2.2 a.2).2.2.2) = ((at_ a.1.2.2.2.2 a.2).2.2.2))∧I19 x36∧μ20 x36 < μ20 y21))))))) False) (Let (IntKind.i64.wrap (y21 + (1 : Int))) (fun v44 : Int => ∃ x45 : Int,(a.2 = a.2)∧((a.1.2.2.2.2.length : Int) = (a.1.2.2.2.2.length : Int))∧(v44 = x45)∧(a.1.1 = a.1.1)∧(a.1.2.1 = a.1.2.1)∧SlS e_api_Machine a.1.2.2.1 (SlS e_api_Queue a.1.2.2.2.1 (SlS e_api_Job a.1.2.2.2.2 (((((at_ a.1.2.2.2.2 a.2).1).1) = (((at_ a.1.2.2.2.2 a.2).1).1))∧((((at_ a.1.2.2.2.2 a.2).1).2.1) = (((at_ a.1.2.2.2.2 a.2).1).2.1))∧((((at_ a.1.2.2.2.2 a.2).1).2.2.1) = (((at_ a.1.2.2.2.2 a.2).1).2.2.1))∧(((((at_ a.1.2.2.2.2 a.2).1).2.2.2.1).1) = ((((at_ a.1.2.2.2.2 a.2).1).2.2.2.1).1))∧(((((at_ a.1.2.2.2.2 a.2).1).2.2.2.1).2.1) = ((((at_ a.1.2.2.2.2 a.2).1).2.2.2.1).2.1))∧(((((at_ a.1.2.2.2.2 a.2).1).2.2.2.1).2.2) = ((((at_ a.1.2.2.2.2 a.2).1).2.2.2.1).2.2))∧SlS e_api_Label (((at_ a.1.2.2.2.2 a.2).1).2.2.2.2.1) (((((at_ a.1.2.2.2.2 a.2).1).2.2.2.2.2.1) = (((at_ a.1.2.2.2.2 a.2).1).2.2.2.2.2.1))∧((((at_ a.1.2.2.2.2 a.2).1).2.2.2.2.2.2.1) = (((at_ a.1.2.2.2.2 a.2).1).2.2.2.2.2.2.1))∧((((at_ a.1.2.2.2.2 a.2).1).2.2.2.2.2.2.2) = (((at_ a.1.2.2.2.2 a.2).1).2.2.2.2.2.2.2))∧(((at_ a.1.2.2.2.2 a.2).2.1) = ((at_ a.1.2.2.2.2 a.2).2.1))∧(((at_ a.1.2.2.2.2 a.2).2.2.1) = ((at_ a.1.2.2.2.2 a.2).2.2.1))∧(((at_ a.1.2.2.2.2 a.2).2.2.2) = ((at_ a.1.2.2.2.2 a.2).2.2.2))∧I19 x45∧μ20 x45 < μ20 y21))))))) (Let (IntKind.i64.wrap (y21 + (1 : Int))) (fun v52 : Int => ∃ x53 : Int,(a.2 = a.2)∧((a.1.2.2.2.2.length : Int) = (a.1.2.2.2.2.length : Int))∧(v52 = x53)∧(a.1.1 = a.1.1)∧(a.1.2.1 = a.1.2.1)∧SlS e_api_Machine a.1.2.2.1 (SlS e_api_Queue a.1.2.2.2.1 (SlS e_api_Job a.1.2.2.2.2 (((((at_ a.1.2.2.2.2 a.2).1).1) = (((at_ a.1.2.2.2.2 a.2).1).1))∧((((at_ a.1.2.2.2.2 a.2).1).2.1) = (((at_ a.1.2.2.2.2 a.2).1).2.1))∧((((at_ a.1.2.2.2.2 a.2).1).2.2.1) = (((at_ a.1.2.2.2.2 a.2).1).2.2.1))∧(((((at_ a.1.2.2.2.2 a.2).1).2.2.2.1).1) = ((((at_ a.1.2.2.2.2 a.2).1).2.2.2.1).1))∧(((((at_ a.1.2.2.2.2 a.2).1).2.2.2.1).2.1) = ((((at_ a.1.2.2.2.2 a.2).1).2.2.2.1).2.1))∧(((((at_ a.1.2.2.2.2 a.2).1).2.2.2.1).2.2) = ((((at_ a.1.2.2.2.2 a.2).1).2.2.2.1).2.2))∧SlS e_api_Label (((at_ a.1.2.2.2.2 a.2).1).2.2.2.2.1) (((((at_ a.1.2.2.2.2 a.2).1).2.2.2.2.2.1) = (((at_ a.1.2.2.2.2 a.2).1).2.2.2.2.2.1))∧((((at_ a.1.2.2.2.2 a.2).1).2.2.2.2.2.2.1) = (((at_ a.1.2.2.2.2 a.2).1).2.2.2.2.2.2.1))∧((((at_ a.1.2.2.2.2 a.2).1).2.2.2.2.2.2.2) = (((at_ a.1.2.2.2.2 a.2).1).2.2.2.2.2.2.2))∧(((at_ a.1.2.2.2.2 a.2).2.1) = ((at_ a.1.2.2.2.2 a.2).2.1))∧(((at_ a.1.2.2.2.2 a.2).2.2.1) = ((at_ a.1.2.2.2.2 a.2).2.2.1))∧(((at_ a.1.2.2.2.2 a.2).2.2.2) = ((at_ a.1.2.2.2.2 a.2).2.2.2))∧I19 x53∧μ20 x53 < μ20 y21))))))) False) (Let (IntKind.i64.wrap (y21 + (1 : Int))) (fun v61 : Int => ∃ x62 : Int,(a.2 = a.2)∧((a.1.2.2.2.2.length : Int) = (a.1.2.2.2.2.length : Int))∧(v61 = x62)∧(a.1.1 = a.1.1)∧(a.1.2.1 = a.1.2.1)∧SlS e_api_Machine a.1.2.2.1 (SlS e_api_Queue a.1.2.2.2.1 (SlS e_api_Job a.1.2.2.2.2 (((((at_ a.1.2.2.2.2 a.2).1).1) = (((at_ a.1.2.2.2.2 a.2).1).1))∧((((at_ a.1.2.2.2.2 a.2).1).2.1) = (((at_ a.1.2.2.2.2 a.2).1).2.1))∧((((at_ a.1.2.2.2.2 a.2).1).2.2.1) = (((at_ a.1.2.2.2.2 a.2).1).2.2.1))∧(((((at_ a.1.2.2.2.2 a.2).1).2.2.2.1).1) = ((((at_ a.1.2.2.2.2 a.2).1).2.2.2.1).1))∧(((((at_ a.1.2.2.2.2 a.2).1).2.2.2.1).2.1) = ((((at_ a.1.2.2.2.2 a.2).1).2.2.2.1).2.1))∧(((((at_ a.1.2.2.2.2 a.2).1).2.2.2.1).2.2) = ((((at_ a.1.2.2.2.2 a.2).1).2.2.2.1).2.2))∧SlS e_api_Label (((at_ a.1.2.2.2.2 a.2).1).2.2.2.2.1) (((((at_ a.1.2.2.2.2 a.2).1).2.2.2.2.2.1) = (((at_ a.1.2.2.2.2 a.2).1).2.2.2.2.2.1))∧((((at_ a.1.2.2.2.2 a.2).1).2.2.2.2.2.2.1) = (((at_ a.1.2.2.2.2 a.2).1).2.2.2.2.2.2.1))∧((((at_ a.1.2.2.2.2 a.2).1).2.2.2.2.2.2.2) = (((at_ a.1.2.2.2.2 a.2).1).2.2.2.2.2.2.2))∧(((at_ a.1.2.2.2.2 a.2).2.1) = ((at_ a.1.2.2.2.2 a.2).2.1))∧(((at_ a.1.2.2.2.2 a.2).2.2.1) = ((at_ a.1.2.2.2.2 a.2).2.2.1))∧(((at_ a.1.2.2.2.2 a.2).2.2.2) = ((at_ a.1.2.2.2.2 a.2).2.2.2))∧I19 x62∧μ20 x62 < μ20 y21))))))) ((true = (standsB a))∧True)))))) False))) False))))) False
def f367.vc (a : T_api_State × Int) : Prop := ((0 : Int)≤a.2∧a.2 < (a.1.2.2.2.2.length : Int)∧(machR_pre (a.1,(at_ a.1.2.2.2.2 a.2).2.2.1)∧(((machR (a.1,(at_ a.1.2.2.2.2 a.2).2.2.1)) < (0 : Int)→(false = standsB a))∧(¬ ((machR (a.1,(at_ a.1.2.2.2.2 a.2).2.2.1)) < (0 : Int))→((0 : Int)≤(machR (a.1,(at_ a.1.2.2.2.2 a.2).2.2.1))∧(machR (a.1,(at_ a.1.2.2.2.2 a.2).2.2.1)) < (a.1.2.2.1.length : Int)∧((¬ (((at_ a.1.2.2.1 (machR (a.1,(at_ a.1.2.2.2.2 a.2).2.2.1))).2.1) = true)→(false = standsB a))∧(¬ (¬ (((at_ a.1.2.2.1 (machR (a.1,(at_ a.1.2.2.2.2 a.2).2.2.1))).2.1) = true))→((((at_ a.1.2.2.2.2 a.2).2.2.2) < (1 : Int)→(false = standsB a))∧(¬ (((at_ a.1.2.2.2.2 a.2).2.2.2) < (1 : Int))→((0 : Int)≤(machR (a.1,(at_ a.1.2.2.2.2 a.2).2.2.1))∧(machR (a.1,(at_ a.1.2.2.2.2 a.2).2.2.1)) < (a.1.2.2.1.length : Int)∧(has_pre (((at_ a.1.2.2.1 (machR (a.1,(at_ a.1.2.2.2.2 a.2).2.2.1))).1).2.2,((at_ a.1.2.2.2.2 a.2).1).2.2.2.2.1)∧((¬ ((hasAll (((at_ a.1.2.2.1 (machR (a.1,(at_ a.1.2.2.2.2 a.2).2.2.1))).1).2.2,((at_ a.1.2.2.2.2 a.2).1).2.2.2.2.1)) = true)→(false = standsB a))∧(¬ (¬ ((hasAll (((at_ a.1.2.2.1 (machR (a.1,(at_ a.1.2.2.2.2 a.2).2.2.1))).1).2.2,((at_ a.1.2.2.2.2 a.2).1).2.2.2.2.1)) = true))→(∃ (I19 : Int→Prop) (μ20 : Int→Nat),I19 (0 : Int)∧∀ y21 : Int,I19 y21→((y21 < (a.1.2.2.2.2.length : Int)→((¬ y21 = a.2→((0 : Int)≤y21∧y21 < (a.1.2.2.2.2.length : Int)∧((((at_ a.1.2.2.2.2 y21).2.2.1) = ((at_ a.1.2.2.2.2 a.2).2.2.1)→((¬ ((((at_ a.1.2.2.2.2 a.2).1).2.2.2.2.2.1) = ByteArray.empty)→((0 : Int)≤y21∧y21 < (a.1.2.2.2.2.length : Int)∧(((((at_ a.1.2.2.2.2 y21).1).2.2.2.2.2.1) = (((at_ a.1.2.2.2.2 a.2).1).2.2.2.2.2.1)→(false = standsB a))∧(¬ ((((at_ a.1.2.2.2.2 y21).1).2.2.2.2.2.1) = (((at_ a.1.2.2.2.2 a.2).1).2.2.2.2.2.1))→(-9223372036854775808≤(y21 + (1 : Int))∧(y21 + (1 : Int))≤9223372036854775807∧(I19 (y21 + (1 : Int))∧μ20 (y21 + (1 : Int)) < μ20 y21))))))∧(¬ (¬ ((((at_ a.1.2.2.2.2 a.2).1).2.2.2.2.2.1) = ByteArray.empty))→(-9223372036854775808≤(y21 + (1 : Int))∧(y21 + (1 : Int))≤9223372036854775807∧(I19 (y21 + (1 : Int))∧μ20 (y21 + (1 : Int)) < μ20 y21)))))∧(¬ (((at_ a.1.2.2.2.2 y21).2.2.1) = ((at_ a.1.2.2.2.2 a.2).2.2.1))→(-9223372036854775808≤(y21 + (1 : Int))∧(y21 + (1 : Int))≤9223372036854775807∧(I19 (y21 + (1 : Int))∧μ20 (y21 + (1 : Int)) < μ20 y21))))))∧(¬ (¬ y21 = a.2)→(-9223372036854775808≤(y21 + (1 : Int))∧(y21 + (1 : Int))≤9223372036854775807∧(I19 (y21 + (1 : Int))∧μ20 (y21 + (1 : Int)) < μ20 y21)))))∧(¬ (y21 < (a.1.2.2.2.2.length : Int))→(true = standsB a)))))))))))))))))
set_option maxRecDepth 100000 in
set_option maxHeartbeats 2000000 in
theorem f367.of (a : T_api_State × Int) (h : f367.vc a) : f367.tree a := chk h.2.2 Cnd.ix ⟨h.1,h.2.1⟩ (fun h1 k87 => ⟨(a.1,(at_ a.1.2.2.2.2 a.2).2.2.1),⟨rfl,⟨rfl,slQ (Rds.self (enc := e_api_Machine)) (slQ (Rds.self (enc := e_api_Queue)) (slQ (Rds.self (enc := e_api_Job)) (⟨rfl,⟨k87.1,br k87.2 Cnd.dec (fun h3 k84 => ⟨k84,trivial⟩) (fun h4 k85 => chk k85.2.2 Cnd.ix ⟨k85.1,k85.2.1⟩ (fun h6 k83 => br k83 (Cnd.not Cnd.b) (fun h7 k81 => ⟨k81,trivial⟩) (fun h8 k82 => br k82 Cnd.dec (fun h10 k79 => ⟨k79,trivial⟩) (fun h11 k80 => chk k80.2.2 Cnd.ix ⟨k80.1,k80.2.1⟩ (fun h13 k78 => ⟨(((at_ a.1.2.2.1 (machR (a.1,(at_ a.1.2.2.2.2 a.2).2.2.1))).1).2.2,((at_ a.1.2.2.2.2 a.2).1).2.2.2.2.1),slQ (Rds.self (enc := e_api_Label)) (slQ (Rds.self (enc := e_api_Label)) (⟨k78.1,br k78.2 (Cnd.not Cnd.b) (fun h15 k75 => ⟨k75,trivial⟩) (fun h16 k76 => Exists.elim k76 (fun I19 h72_ => Exists.elim h72_ (fun μ20 h72 => ⟨I19,μ20,⟨(0 : Int),⟨rfl,⟨rfl,⟨rfl,⟨rfl,⟨rfl,SlS.mk  (SlS.mk  (SlS.mk  (⟨rfl,⟨rfl,⟨rfl,⟨rfl,⟨rfl,⟨rfl,SlS.mk  (⟨rfl,⟨rfl,⟨rfl,⟨rfl,⟨rfl,⟨rfl,h72.1⟩⟩⟩⟩⟩⟩)⟩⟩⟩⟩⟩⟩)))⟩⟩⟩⟩⟩⟩,fun y21 h74 => br (h72.2 y21 h74) Cnd.dec (fun h22 k70 => br k70 Cnd.ne (fun h24 k67 => chk k67.2.2 Cnd.ix ⟨k67.1,k67.2.1⟩ (fun h26 k60 => br k60 Cnd.seq (fun h27 k58 => br k58 (Cnd.not Cnd.seq) (fun h29 k50 => chk k50.2.2 Cnd.ix ⟨k50.1,k50.2.1⟩ (fun h31 k43 => br k43 Cnd.seq (fun h32 k41 => ⟨k41,trivial⟩) (fun h33 k42 => wrapK.i64 k42 (fun h38 h39 k40 => ⟨(y21 + (1 : Int)),⟨rfl,⟨rfl,⟨rfl,⟨rfl,⟨rfl,SlS.mk  (SlS.mk  (SlS.mk  (⟨rfl,⟨rfl,⟨rfl,⟨rfl,⟨rfl,⟨rfl,SlS.mk  (⟨rfl,⟨rfl,⟨rfl,⟨rfl,⟨rfl,⟨rfl,k40⟩⟩⟩⟩⟩⟩)⟩⟩⟩⟩⟩⟩)))⟩⟩⟩⟩⟩⟩)))) (fun h30 k51 => wrapK.i64 k51 (fun h47 h48 k49 => ⟨(y21 + (1 : Int)),⟨rfl,⟨rfl,⟨rfl,⟨rfl,⟨rfl,SlS.mk  (SlS.mk  (SlS.mk  (⟨rfl,⟨rfl,⟨rfl,⟨rfl,⟨rfl,⟨rfl,SlS.mk  (⟨rfl,⟨rfl,⟨rfl,⟨rfl,⟨rfl,⟨rfl,k49⟩⟩⟩⟩⟩⟩)⟩⟩⟩⟩⟩⟩)))⟩⟩⟩⟩⟩⟩))) (fun h28 k59 => wrapK.i64 k59 (fun h55 h56 k57 => ⟨(y21 + (1 : Int)),⟨rfl,⟨rfl,⟨rfl,⟨rfl,⟨rfl,SlS.mk  (SlS.mk  (SlS.mk  (⟨rfl,⟨rfl,⟨rfl,⟨rfl,⟨rfl,⟨rfl,SlS.mk  (⟨rfl,⟨rfl,⟨rfl,⟨rfl,⟨rfl,⟨rfl,k57⟩⟩⟩⟩⟩⟩)⟩⟩⟩⟩⟩⟩)))⟩⟩⟩⟩⟩⟩)))) (fun h25 k68 => wrapK.i64 k68 (fun h64 h65 k66 => ⟨(y21 + (1 : Int)),⟨rfl,⟨rfl,⟨rfl,⟨rfl,⟨rfl,SlS.mk  (SlS.mk  (SlS.mk  (⟨rfl,⟨rfl,⟨rfl,⟨rfl,⟨rfl,⟨rfl,SlS.mk  (⟨rfl,⟨rfl,⟨rfl,⟨rfl,⟨rfl,⟨rfl,k66⟩⟩⟩⟩⟩⟩)⟩⟩⟩⟩⟩⟩)))⟩⟩⟩⟩⟩⟩))) (fun h23 k71 => ⟨k71,trivial⟩)⟩)))⟩))⟩)))))⟩⟩)))⟩⟩⟩)
theorem f367.eq (a : T_api_State × Int) : (f367.af a).gives f367.env (f367.args a) (f367.blks a) (f367.res a) (f367.blks' a) = f367.tree a := by kernel_rfl
end Go.Abs

-- interregnum/gen1.machines
namespace Go.Abs
open Go
def f362.args (a : T_api_State) : List D := [.agg [.int .i64 a.1,.int .i64 a.2.1,.slice .ro 7 a.2.2.1.length (gl e_api_Machine a.2.2.1),.slice .ro 4 a.2.2.2.1.length (gl e_api_Queue a.2.2.2.1),.slice .ro 13 a.2.2.2.2.length (gl e_api_Job a.2.2.2.2)]]
def f362.blks (a : T_api_State) : List (List D) := []
def f362.res (a : T_api_State) : List D := [.bool (machsB a)]
def f362.blks' (a : T_api_State) : List (List D) := []
def f362.C : Contract := FnC f362.args f362.blks (fun a => state_pre a) f362.res f362.blks'
end Go.Abs

/- interregnum/gen1.machines -/
namespace Go.Abs
open Go
set_option linter.unusedVariables false
def f362.S0 (a : T_api_State) (x : ByteArray × Int) : Tm := ⟨[.dead,.ptr 0 0,.dead,.str x.1,.dead,.dead,.dead,.dead,.dead,.slice .ro 7 a.2.2.1.length (gl e_api_Machine a.2.2.1),.int .i64 (a.2.2.1.length : Int),.int .i64 x.2,.dead,.dead,.dead,.dead,.dead,.dead,.dead,.dead,.dead,.dead,.dead,.dead,.dead,.dead,.dead,.dead,.dead,.dead,.dead,.dead,.dead,.dead,.dead,.dead,.dead,.dead,.dead,.dead,.dead,.dead,.dead,.dead,.dead,.dead,.dead,.dead,.dead,.dead,.dead,.dead,.dead],[(0,false,[.int .i64 a.1,.int .i64 a.2.1,.slice .ro 7 a.2.2.1.length (gl e_api_Machine a.2.2.1),.slice .ro 4 a.2.2.2.1.length (gl e_api_Queue a.2.2.2.1),.slice .ro 13 a.2.2.2.2.length (gl e_api_Job a.2.2.2.2)])],[]⟩
def f362.kills (a : T_api_State) : List Hint := [.tell (ByteArray × Int) (f362.S0 a)]
def f362.cuts (a : T_api_State) : List (Nat × Σ β : Type,β→Tm) := []
def f362.af (a : T_api_State) : AF := AF.mk (.seq (.region [oT 1 0 .box [0],
 ⟨(some 2),1,.move,[.c (.bool false)],none⟩])
 (.seq (.region [⟨(some 3),2,.move,[.c (.str ByteArray.empty)],none⟩])
 (.seq (.seq (.region [oT 8 3 (.fieldAddr 2) [1],
 oT 9 4 (.load false 1) [8],
 oT 10 5 (.len false) [9],
 ⟨(some 11),6,.move,[.c (.int .i64 (0))],none⟩])
 (.block 0 (.loopT (ByteArray × Int) (f362.S0 a) 7 69 (.seq (.region [oT 12 7 (.bin .lss) [11,10]])
 (.seq (.cond (.t 12) (.skip) (.exit 0))
 (.seq (.block 1 (.seq (.region [oT 13 8 (.indexAddr 7 none) [9,11],
 oT 14 9 (.load true 7) [13],
 oT 5 10 (.alloc [.str ByteArray.empty,.int .i64 (0),.int .i64 (0),.int .i64 (0),.slice (.own 0) 2 0 gnil,.bool false,.int .i64 (0)]) [],
 ⟨none,18,(.store 7),[.t 5,.t 14],none⟩])
 (.seq (.seq (.region [oT 15 19 (.fieldAddr 0) [5],
 oT 16 20 (.load true 5) [15],
 oT 17 21 (.call false 35) [16],
 oT 18 25 (.un .not) [17],
 oT 19 26 .move [18],
 oG 20 27 (.fieldAddr 6) [5] 19 false,
 oG 21 28 (.load false 1) [20] 19 false,
 ⟨(some 22),29,(.bin .lss),[.t 21,.c (.int .i64 (0))],(some (19,false))⟩,
 ⟨(some 23),30,.pick,[.t 19,.c (.bool true),.t 22],none⟩,
 oT 24 31 .move [23],
 oG 25 32 (.fieldAddr 6) [5] 24 false,
 oG 26 33 (.load false 1) [25] 24 false,
 ⟨(some 27),34,(.bin .gtr),[.t 26,.c (.int .i64 (1073741828))],(some (24,false))⟩,
 ⟨(some 28),35,.pick,[.t 24,.c (.bool true),.t 27],none⟩,
 oT 29 36 .move [28],
 oG 30 37 (.fieldAddr 0) [5] 29 false,
 oG 31 38 (.fieldAddr 0) [30] 29 false,
 oG 32 39 (.load false 1) [31] 29 false,
 oG 33 40 .move [3] 29 false,
 oG 34 41 (.bin .leq) [32,33] 29 false,
 ⟨(some 35),42,.pick,[.t 29,.c (.bool true),.t 34],none⟩])
 (.cond (.t 35) (.seq (.region [⟨(some 2),43,.move,[.c (.bool false)],none⟩])
 (.ret)) (.skip)))
 (.seq (.seq (.region [oT 37 44 (.load true 7) [5],
 oT 38 45 (.fieldAddr 4) [1],
 oT 39 46 (.load false 1) [38],
 oT 40 47 (.call false 112) [37,39],
 oT 36 51 .move [40],
 oT 41 52 (.extract 0) [36],
 oT 42 53 (.extract 1) [36],
 oT 6 54 (.alloc [.int .i64 (0),.int .i64 (0),.int .i64 (0)]) [],
 ⟨none,58,(.store 3),[.t 6,.t 41],none⟩,
 oT 7 59 .move [42]])
 (.seq (.region [oT 43 60 .move [7],
 ⟨(some 44),61,(.bin .neq),[.t 43,.c (.int .i64 (0))],none⟩])
 (.cond (.t 44) (.seq (.region [⟨(some 2),62,.move,[.c (.bool false)],none⟩])
 (.ret)) (.skip))))
 (.region [oT 45 63 (.fieldAddr 0) [5],
 oT 46 64 (.fieldAddr 0) [45],
 oT 47 65 (.load false 1) [46],
 oT 3 66 .move [47]])))))
 (.region [⟨(some 48),67,(.bin .add),[.t 11,.c (.int .i64 (1))],none⟩,
 oT 11 68 .move [48]])))))))
 (.seq (.region [oT 49 69 (.fieldAddr 2) [1],
 oT 50 70 (.load false 1) [49],
 oT 51 71 (.len false) [50],
 ⟨(some 52),72,(.bin .leq),[.t 51,.c (.int .i64 (16))],none⟩,
 oT 2 73 .move [52]])
 (.ret)))))
 [.tmp 2] 0 52
def f362.env : Env := [(35,f35.C),(112,f112.C)]
def f362.tree (a : T_api_State) : Prop := ∃ (I2 : (ByteArray × Int)→Prop) (μ3 : (ByteArray × Int)→Nat),(∃ x1 : ByteArray × Int,(ByteArray.empty = x1.1)∧SlS e_api_Machine a.2.2.1 (((a.2.2.1.length : Int) = (a.2.2.1.length : Int))∧((0 : Int) = x1.2)∧(a.1 = a.1)∧(a.2.1 = a.2.1)∧SlS e_api_Machine a.2.2.1 (SlS e_api_Queue a.2.2.2.1 (SlS e_api_Job a.2.2.2.2 (I2 x1)))))∧∀ y4 : ByteArray × Int,I2 y4→(Br (decide (y4.2 < (a.2.2.1.length : Int))) (Br (decide ((0 : Int)≤y4.2) && decide (y4.2 < (a.2.2.1.length : Int))) (∃ c8 : T_api_Node,((((at_ a.2.2.1 y4.2).1).1) = c8.1)∧(((((at_ a.2.2.1 y4.2).1).2.1).1) = c8.2.1.1)∧(((((at_ a.2.2.1 y4.2).1).2.1).2.1) = c8.2.1.2.1)∧(((((at_ a.2.2.1 y4.2).1).2.1).2.2) = c8.2.1.2.2)∧SlQ ((((at_ a.2.2.1 y4.2).1).2.2).length) c8.2.2.length (gl e_api_Label (((at_ a.2.2.1 y4.2).1).2.2)) (gl e_api_Label c8.2.2) ((node_pre c8)∧Br (!(nodeB c8)) ((false = (machsB a))∧True) (Br (decide (((at_ a.2.2.1 y4.2).2.2) < (0 : Int))) ((false = (machsB a))∧True) (Br (decide ((1073741828 : Int) < ((at_ a.2.2.1 y4.2).2.2))) ((false = (machsB a))∧True) (Br (Op.bytesLess (((at_ a.2.2.1 y4.2).1).1).toList y4.1.toList || (((at_ a.2.2.1 y4.2).1).1).toList == y4.1.toList) ((false = (machsB a))∧True) (∃ c21 : T_api_Machine × (List (T_api_Job)),((((at_ a.2.2.1 y4.2).1).1) = c21.1.1.1)∧(((((at_ a.2.2.1 y4.2).1).2.1).1) = c21.1.1.2.1.1)∧(((((at_ a.2.2.1 y4.2).1).2.1).2.1) = c21.1.1.2.1.2.1)∧(((((at_ a.2.2.1 y4.2).1).2.1).2.2) = c21.1.1.2.1.2.2)∧SlQ ((((at_ a.2.2.1 y4.2).1).2.2).length) c21.1.1.2.2.length (gl e_api_Label (((at_ a.2.2.1 y4.2).1).2.2)) (gl e_api_Label c21.1.1.2.2) ((((at_ a.2.2.1 y4.2).2.1) = c21.1.2.1)∧(((at_ a.2.2.1 y4.2).2.2) = c21.1.2.2)∧SlQ a.2.2.2.2.length c21.2.length (gl e_api_Job a.2.2.2.2) (gl e_api_Job c21.2) ((free_pre c21)∧Br (((freeR c21).2) != (0 : Int)) ((false = (machsB a))∧True) (Let (IntKind.i64.wrap (y4.2 + (1 : Int))) (fun v25 : Int => ∃ x26 : ByteArray × Int,((((at_ a.2.2.1 y4.2).1).1) = x26.1)∧SlS e_api_Machine a.2.2.1 (((a.2.2.1.length : Int) = (a.2.2.1.length : Int))∧(v25 = x26.2)∧(a.1 = a.1)∧(a.2.1 = a.2.1)∧SlS e_api_Machine a.2.2.1 (SlS e_api_Queue a.2.2.2.1 (SlS e_api_Job a.2.2.2.2 (I2 x26∧μ3 x26 < μ3 y4)))))))))))))) False) (((decide ((a.2.2.1.length : Int)≤(16 : Int))) = (machsB a))∧True))
def f362.vc (a : T_api_State) : Prop := (∃ (I2 : (ByteArray × Int)→Prop) (μ3 : (ByteArray × Int)→Nat),I2 (ByteArray.empty,(0 : Int))∧∀ y4 : ByteArray × Int,I2 y4→((y4.2 < (a.2.2.1.length : Int)→((0 : Int)≤y4.2∧y4.2 < (a.2.2.1.length : Int)∧(node_pre ((at_ a.2.2.1 y4.2).1)∧((¬ ((nodeB ((at_ a.2.2.1 y4.2).1)) = true)→(false = machsB a))∧(¬ (¬ ((nodeB ((at_ a.2.2.1 y4.2).1)) = true))→((((at_ a.2.2.1 y4.2).2.2) < (0 : Int)→(false = machsB a))∧(¬ (((at_ a.2.2.1 y4.2).2.2) < (0 : Int))→(((1073741828 : Int) < ((at_ a.2.2.1 y4.2).2.2)→(false = machsB a))∧(¬ ((1073741828 : Int) < ((at_ a.2.2.1 y4.2).2.2))→((sLe (((at_ a.2.2.1 y4.2).1).1) y4.1→(false = machsB a))∧(¬ (sLe (((at_ a.2.2.1 y4.2).1).1) y4.1)→(free_pre ((((at_ a.2.2.1 y4.2).1),(at_ a.2.2.1 y4.2).2.1,(at_ a.2.2.1 y4.2).2.2),a.2.2.2.2)∧((¬ ((freeR ((((at_ a.2.2.1 y4.2).1),(at_ a.2.2.1 y4.2).2.1,(at_ a.2.2.1 y4.2).2.2),a.2.2.2.2)).2) = (0 : Int)→(false = machsB a))∧(¬ (¬ ((freeR ((((at_ a.2.2.1 y4.2).1),(at_ a.2.2.1 y4.2).2.1,(at_ a.2.2.1 y4.2).2.2),a.2.2.2.2)).2) = (0 : Int))→(-9223372036854775808≤(y4.2 + (1 : Int))∧(y4.2 + (1 : Int))≤9223372036854775807∧(I2 (((at_ a.2.2.1 y4.2).1).1,(y4.2 + (1 : Int)))∧μ3 (((at_ a.2.2.1 y4.2).1).1,(y4.2 + (1 : Int))) < μ3 y4))))))))))))))))∧(¬ (y4.2 < (a.2.2.1.length : Int))→(decide ((a.2.2.1.length : Int)≤(16 : Int)) = machsB a))))
set_option maxRecDepth 100000 in
set_option maxHeartbeats 2000000 in
theorem f362.of (a : T_api_State) (h : f362.vc a) : f362.tree a := Exists.elim h (fun I2 h47_ => Exists.elim h47_ (fun μ3 h47 => ⟨I2,μ3,⟨(ByteArray.empty,(0 : Int)),⟨rfl,SlS.mk  (⟨rfl,⟨rfl,⟨rfl,⟨rfl,SlS.mk  (SlS.mk  (SlS.mk  (h47.1)))⟩⟩⟩⟩)⟩⟩,fun y4 h49 => br (h47.2 y4 h49) Cnd.dec (fun h5 k45 => chk k45.2.2 Cnd.ix ⟨k45.1,k45.2.1⟩ (fun h7 k43 => ⟨((at_ a.2.2.1 y4.2).1),⟨rfl,⟨rfl,⟨rfl,⟨rfl,slQ (Rds.self (enc := e_api_Label)) (⟨k43.1,br k43.2 (Cnd.not Cnd.b) (fun h9 k40 => ⟨k40,trivial⟩) (fun h10 k41 => br k41 Cnd.dec (fun h12 k38 => ⟨k38,trivial⟩) (fun h13 k39 => br k39 Cnd.dec (fun h15 k36 => ⟨k36,trivial⟩) (fun h16 k37 => br k37 Cnd.sle (fun h18 k34 => ⟨k34,trivial⟩) (fun h19 k35 => ⟨((((at_ a.2.2.1 y4.2).1),(at_ a.2.2.1 y4.2).2.1,(at_ a.2.2.1 y4.2).2.2),a.2.2.2.2),⟨rfl,⟨rfl,⟨rfl,⟨rfl,slQ (Rds.self (enc := e_api_Label)) (⟨rfl,⟨rfl,slQ (Rds.self (enc := e_api_Job)) (⟨k35.1,br k35.2 Cnd.ne (fun h22 k31 => ⟨k31,trivial⟩) (fun h23 k32 => wrapK.i64 k32 (fun h28 h29 k30 => ⟨(((at_ a.2.2.1 y4.2).1).1,(y4.2 + (1 : Int))),⟨rfl,SlS.mk  (⟨rfl,⟨rfl,⟨rfl,⟨rfl,SlS.mk  (SlS.mk  (SlS.mk  (k30)))⟩⟩⟩⟩)⟩⟩))⟩)⟩⟩)⟩⟩⟩⟩⟩))))⟩)⟩⟩⟩⟩⟩)) (fun h6 k46 => ⟨k46,trivial⟩)⟩))
theorem f362.eq (a : T_api_State) : (f362.af a).gives f362.env (f362.args a) (f362.blks a) (f362.res a) (f362.blks' a) = f362.tree a := by kernel_rfl
end Go.Abs

-- interregnum/gen1.queues
namespace Go.Abs
open Go
def f363.args (a : T_api_State) : List D := [.agg [.int .i64 a.1,.int .i64 a.2.1,.slice .ro 7 a.2.2.1.length (gl e_api_Machine a.2.2.1),.slice .ro 4 a.2.2.2.1.length (gl e_api_Queue a.2.2.2.1),.slice .ro 13 a.2.2.2.2.length (gl e_api_Job a.2.2.2.2)]]
def f363.blks (a : T_api_State) : List (List D) := []
def f363.res (a : T_api_State) : List D := [.bool (queuesB a)]
def f363.blks' (a : T_api_State) : List (List D) := []
def f363.C : Contract := FnC f363.args f363.blks (fun a => state_pre a) f363.res f363.blks'
end Go.Abs

/- interregnum/gen1.queues -/
namespace Go.Abs
open Go
set_option linter.unusedVariables false
def f363.S0 (a : T_api_State) (x : ByteArray × Int) : Tm := ⟨[.dead,.ptr 0 0,.dead,.str x.1,.dead,.dead,.dead,.dead,.dead,.slice .ro 4 a.2.2.2.1.length (gl e_api_Queue a.2.2.2.1),.int .i64 (a.2.2.2.1.length : Int),.int .i64 x.2,.dead,.dead,.dead,.dead,.dead,.dead,.dead,.dead,.dead,.dead,.dead,.dead,.dead,.dead,.dead,.dead,.dead,.dead,.dead,.dead,.dead,.dead,.dead,.dead,.dead,.dead,.dead,.dead,.dead,.dead,.dead,.dead,.dead,.dead,.dead,.dead],[(0,false,[.int .i64 a.1,.int .i64 a.2.1,.slice .ro 7 a.2.2.1.length (gl e_api_Machine a.2.2.1),.slice .ro 4 a.2.2.2.1.length (gl e_api_Queue a.2.2.2.1),.slice .ro 13 a.2.2.2.2.length (gl e_api_Job a.2.2.2.2)])],[]⟩
def f363.kills (a : T_api_State) : List Hint := [.tell (ByteArray × Int) (f363.S0 a)]
def f363.cuts (a : T_api_State) : List (Nat × Σ β : Type,β→Tm) := []
def f363.af (a : T_api_State) : AF := AF.mk (.seq (.region [oT 1 0 .box [0],
 ⟨(some 2),1,.move,[.c (.bool false)],none⟩])
 (.seq (.region [⟨(some 3),2,.move,[.c (.str ByteArray.empty)],none⟩])
 (.seq (.seq (.region [oT 8 3 (.fieldAddr 3) [1],
 oT 9 4 (.load false 1) [8],
 oT 10 5 (.len false) [9],
 ⟨(some 11),6,.move,[.c (.int .i64 (0))],none⟩])
 (.block 0 (.loopT (ByteArray × Int) (f363.S0 a) 7 64 (.seq (.region [oT 12 7 (.bin .lss) [11,10]])
 (.seq (.cond (.t 12) (.skip) (.exit 0))
 (.seq (.block 1 (.seq (.region [oT 13 8 (.indexAddr 4 none) [9,11],
 oT 14 9 (.load true 4) [13],
 oT 5 10 (.alloc [.str ByteArray.empty,.int .i64 (0),.int .i64 (0),.int .i64 (0)]) [],
 ⟨none,15,(.store 4),[.t 5,.t 14],none⟩])
 (.seq (.seq (.region [oT 15 16 (.load true 4) [5],
 oT 16 17 (.call false 25) [15],
 oT 17 21 (.un .not) [16],
 oT 18 22 .move [17],
 oG 19 23 (.fieldAddr 0) [5] 18 false,
 oG 20 24 (.load false 1) [19] 18 false,
 oG 21 25 .move [3] 18 false,
 oG 22 26 (.bin .leq) [20,21] 18 false,
 ⟨(some 23),27,.pick,[.t 18,.c (.bool true),.t 22],none⟩])
 (.cond (.t 23) (.seq (.region [⟨(some 2),28,.move,[.c (.bool false)],none⟩])
 (.ret)) (.skip)))
 (.seq (.seq (.region [oT 25 29 (.fieldAddr 4) [1],
 oT 26 30 (.load false 1) [25],
 oT 27 31 (.fieldAddr 0) [5],
 oT 28 32 (.load false 1) [27],
 oT 29 33 (.call false 27) [26,28],
 oT 24 37 .move [29],
 oT 30 38 (.extract 0) [24],
 oT 31 39 (.extract 1) [24],
 oT 6 40 (.alloc [.int .i64 (0),.int .i64 (0),.int .i64 (0)]) [],
 ⟨none,44,(.store 3),[.t 6,.t 30],none⟩,
 oT 7 45 .move [31]])
 (.seq (.region [oT 32 46 .move [7],
 ⟨(some 33),47,(.bin .neq),[.t 32,.c (.int .i64 (0))],none⟩,
 oT 34 48 .move [33],
 oG 35 49 (.load true 3) [6] 34 false,
 oG 36 50 (.fieldAddr 1) [5] 34 false,
 oG 37 51 (.load true 3) [36] 34 false,
 oG 38 52 (.call false 34) [35,37] 34 false,
 oG 39 56 (.un .not) [38] 34 false,
 ⟨(some 40),57,.pick,[.t 34,.c (.bool true),.t 39],none⟩])
 (.cond (.t 40) (.seq (.region [⟨(some 2),58,.move,[.c (.bool false)],none⟩])
 (.ret)) (.skip))))
 (.region [oT 41 59 (.fieldAddr 0) [5],
 oT 42 60 (.load false 1) [41],
 oT 3 61 .move [42]])))))
 (.region [⟨(some 43),62,(.bin .add),[.t 11,.c (.int .i64 (1))],none⟩,
 oT 11 63 .move [43]])))))))
 (.seq (.region [oT 44 64 (.fieldAddr 3) [1],
 oT 45 65 (.load false 1) [44],
 oT 46 66 (.len false) [45],
 ⟨(some 47),67,(.bin .leq),[.t 46,.c (.int .i64 (8))],none⟩,
 oT 2 68 .move [47]])
 (.ret)))))
 [.tmp 2] 0 47
def f363.env : Env := [(25,f25.C),(27,f27.C),(34,f34.C)]
def f363.tree (a : T_api_State) : Prop := ∃ (I2 : (ByteArray × Int)→Prop) (μ3 : (ByteArray × Int)→Nat),(∃ x1 : ByteArray × Int,(ByteArray.empty = x1.1)∧SlS e_api_Queue a.2.2.2.1 (((a.2.2.2.1.length : Int) = (a.2.2.2.1.length : Int))∧((0 : Int) = x1.2)∧(a.1 = a.1)∧(a.2.1 = a.2.1)∧SlS e_api_Machine a.2.2.1 (SlS e_api_Queue a.2.2.2.1 (SlS e_api_Job a.2.2.2.2 (I2 x1)))))∧∀ y4 : ByteArray × Int,I2 y4→(Br (decide (y4.2 < (a.2.2.2.1.length : Int))) (Br (decide ((0 : Int)≤y4.2) && decide (y4.2 < (a.2.2.2.1.length : Int))) (∃ c8 : T_api_Queue,(((at_ a.2.2.2.1 y4.2).1) = c8.1)∧((((at_ a.2.2.2.1 y4.2).2).1) = c8.2.1)∧((((at_ a.2.2.2.1 y4.2).2).2.1) = c8.2.2.1)∧((((at_ a.2.2.2.1 y4.2).2).2.2) = c8.2.2.2)∧(queue_pre c8)∧Br (!(queueB c8)) ((false = (queuesB a))∧True) (Br (Op.bytesLess ((at_ a.2.2.2.1 y4.2).1).toList y4.1.toList || ((at_ a.2.2.2.1 y4.2).1).toList == y4.1.toList) ((false = (queuesB a))∧True) (∃ c15 : (List (T_api_Job)) × ByteArray,SlQ a.2.2.2.2.length c15.1.length (gl e_api_Job a.2.2.2.2) (gl e_api_Job c15.1) ((((at_ a.2.2.2.1 y4.2).1) = c15.2)∧(used_pre c15)∧Br (((usedR c15).2) != (0 : Int)) ((false = (queuesB a))∧True) (∃ c19 : T_ar3_i64 × T_ar3_i64,((((usedR c15).1).1) = c19.1.1)∧((((usedR c15).1).2.1) = c19.1.2.1)∧((((usedR c15).1).2.2) = c19.1.2.2)∧((((at_ a.2.2.2.1 y4.2).2).1) = c19.2.1)∧((((at_ a.2.2.2.1 y4.2).2).2.1) = c19.2.2.1)∧((((at_ a.2.2.2.1 y4.2).2).2.2) = c19.2.2.2)∧True∧Br (!(fitsR c19)) ((false = (queuesB a))∧True) (Let (IntKind.i64.wrap (y4.2 + (1 : Int))) (fun v23 : Int => ∃ x24 : ByteArray × Int,(((at_ a.2.2.2.1 y4.2).1) = x24.1)∧SlS e_api_Queue a.2.2.2.1 (((a.2.2.2.1.length : Int) = (a.2.2.2.1.length : Int))∧(v23 = x24.2)∧(a.1 = a.1)∧(a.2.1 = a.2.1)∧SlS e_api_Machine a.2.2.1 (SlS e_api_Queue a.2.2.2.1 (SlS e_api_Job a.2.2.2.2 (I2 x24∧μ3 x24 < μ3 y4))))))))))) False) (((decide ((a.2.2.2.1.length : Int)≤(8 : Int))) = (queuesB a))∧True))
def f363.vc (a : T_api_State) : Prop := (∃ (I2 : (ByteArray × Int)→Prop) (μ3 : (ByteArray × Int)→Nat),I2 (ByteArray.empty,(0 : Int))∧∀ y4 : ByteArray × Int,I2 y4→((y4.2 < (a.2.2.2.1.length : Int)→((0 : Int)≤y4.2∧y4.2 < (a.2.2.2.1.length : Int)∧(queue_pre (at_ a.2.2.2.1 y4.2)∧((¬ ((queueB (at_ a.2.2.2.1 y4.2)) = true)→(false = queuesB a))∧(¬ (¬ ((queueB (at_ a.2.2.2.1 y4.2)) = true))→((sLe ((at_ a.2.2.2.1 y4.2).1) y4.1→(false = queuesB a))∧(¬ (sLe ((at_ a.2.2.2.1 y4.2).1) y4.1)→(used_pre (a.2.2.2.2,(at_ a.2.2.2.1 y4.2).1)∧((¬ ((usedR (a.2.2.2.2,(at_ a.2.2.2.1 y4.2).1)).2) = (0 : Int)→(false = queuesB a))∧(¬ (¬ ((usedR (a.2.2.2.2,(at_ a.2.2.2.1 y4.2).1)).2) = (0 : Int))→((¬ ((fitsR (((usedR (a.2.2.2.2,(at_ a.2.2.2.1 y4.2).1)).1),((at_ a.2.2.2.1 y4.2).2))) = true)→(false = queuesB a))∧(¬ (¬ ((fitsR (((usedR (a.2.2.2.2,(at_ a.2.2.2.1 y4.2).1)).1),((at_ a.2.2.2.1 y4.2).2))) = true))→(-9223372036854775808≤(y4.2 + (1 : Int))∧(y4.2 + (1 : Int))≤9223372036854775807∧(I2 ((at_ a.2.2.2.1 y4.2).1,(y4.2 + (1 : Int)))∧μ3 ((at_ a.2.2.2.1 y4.2).1,(y4.2 + (1 : Int))) < μ3 y4))))))))))))))∧(¬ (y4.2 < (a.2.2.2.1.length : Int))→(decide ((a.2.2.2.1.length : Int)≤(8 : Int)) = queuesB a))))
set_option maxRecDepth 100000 in
set_option maxHeartbeats 2000000 in
theorem f363.of (a : T_api_State) (h : f363.vc a) : f363.tree a := Exists.elim h (fun I2 h44_ => Exists.elim h44_ (fun μ3 h44 => ⟨I2,μ3,⟨(ByteArray.empty,(0 : Int)),⟨rfl,SlS.mk  (⟨rfl,⟨rfl,⟨rfl,⟨rfl,SlS.mk  (SlS.mk  (SlS.mk  (h44.1)))⟩⟩⟩⟩)⟩⟩,fun y4 h46 => br (h44.2 y4 h46) Cnd.dec (fun h5 k42 => chk k42.2.2 Cnd.ix ⟨k42.1,k42.2.1⟩ (fun h7 k40 => ⟨(at_ a.2.2.2.1 y4.2),⟨rfl,⟨rfl,⟨rfl,⟨rfl,⟨k40.1,br k40.2 (Cnd.not Cnd.b) (fun h9 k37 => ⟨k37,trivial⟩) (fun h10 k38 => br k38 Cnd.sle (fun h12 k35 => ⟨k35,trivial⟩) (fun h13 k36 => ⟨(a.2.2.2.2,(at_ a.2.2.2.1 y4.2).1),slQ (Rds.self (enc := e_api_Job)) (⟨rfl,⟨k36.1,br k36.2 Cnd.ne (fun h16 k32 => ⟨k32,trivial⟩) (fun h17 k33 => ⟨(((usedR (a.2.2.2.2,(at_ a.2.2.2.1 y4.2).1)).1),((at_ a.2.2.2.1 y4.2).2)),⟨rfl,⟨rfl,⟨rfl,⟨rfl,⟨rfl,⟨rfl,⟨trivial,br k33 (Cnd.not Cnd.b) (fun h20 k29 => ⟨k29,trivial⟩) (fun h21 k30 => wrapK.i64 k30 (fun h26 h27 k28 => ⟨((at_ a.2.2.2.1 y4.2).1,(y4.2 + (1 : Int))),⟨rfl,SlS.mk  (⟨rfl,⟨rfl,⟨rfl,⟨rfl,SlS.mk  (SlS.mk  (SlS.mk  (k28)))⟩⟩⟩⟩)⟩⟩))⟩⟩⟩⟩⟩⟩⟩⟩)⟩⟩)⟩))⟩⟩⟩⟩⟩⟩)) (fun h6 k43 => ⟨k43,trivial⟩)⟩))
theorem f363.eq (a : T_api_State) : (f363.af a).gives f363.env (f363.args a) (f363.blks a) (f363.res a) (f363.blks' a) = f363.tree a := by kernel_rfl
end Go.Abs

-- interregnum/gen1.jobs
namespace Go.Abs
open Go
def f364.args (a : T_api_State) : List D := [.agg [.int .i64 a.1,.int .i64 a.2.1,.slice .ro 7 a.2.2.1.length (gl e_api_Machine a.2.2.1),.slice .ro 4 a.2.2.2.1.length (gl e_api_Queue a.2.2.2.1),.slice .ro 13 a.2.2.2.2.length (gl e_api_Job a.2.2.2.2)]]
def f364.blks (a : T_api_State) : List (List D) := []
def f364.res (a : T_api_State) : List D := [.bool (jobsB a)]
def f364.blks' (a : T_api_State) : List (List D) := []
def f364.C : Contract := FnC f364.args f364.blks (fun a => state_pre a) f364.res f364.blks'
end Go.Abs

/- interregnum/gen1.jobs -/
namespace Go.Abs
open Go
set_option linter.unusedVariables false
def f364.S0 (a : T_api_State) (x : Int × Int) : Tm := ⟨[.dead,.ptr 0 0,.dead,.int .i64 x.1,.dead,.dead,.dead,.slice .ro 13 a.2.2.2.2.length (gl e_api_Job a.2.2.2.2),.int .i64 (a.2.2.2.2.length : Int),.int .i64 x.2,.dead,.dead,.dead,.dead,.dead,.dead,.dead,.dead,.dead,.dead,.dead,.dead,.dead,.dead,.dead,.dead,.dead,.dead,.dead,.dead,.dead,.dead,.dead,.dead,.dead,.dead,.dead,.dead,.dead,.dead,.dead,.dead,.dead,.dead,.dead,.dead,.dead,.dead,.dead,.dead,.dead,.dead,.dead,.dead,.dead,.dead,.dead,.dead,.dead,.dead,.dead,.dead,.dead,.dead,.dead,.dead,.dead,.dead,.dead,.dead,.dead,.dead,.dead,.dead,.dead,.dead],[(0,false,[.int .i64 a.1,.int .i64 a.2.1,.slice .ro 7 a.2.2.1.length (gl e_api_Machine a.2.2.1),.slice .ro 4 a.2.2.2.1.length (gl e_api_Queue a.2.2.2.1),.slice .ro 13 a.2.2.2.2.length (gl e_api_Job a.2.2.2.2)])],[]⟩
def f364.kills (a : T_api_State) : List Hint := [.tell (Int × Int) (f364.S0 a)]
def f364.cuts (a : T_api_State) : List (Nat × Σ β : Type,β→Tm) := []
def f364.af (a : T_api_State) : AF := AF.mk (.seq (.region [oT 1 0 .box [0],
 ⟨(some 2),1,.move,[.c (.bool false)],none⟩])
 (.seq (.region [⟨(some 3),2,.move,[.c (.int .i64 (0))],none⟩])
 (.seq (.seq (.region [oT 6 3 (.fieldAddr 4) [1],
 oT 7 4 (.load false 1) [6],
 oT 8 5 (.len false) [7],
 ⟨(some 9),6,.move,[.c (.int .i64 (0))],none⟩])
 (.block 0 (.loopT (Int × Int) (f364.S0 a) 7 105 (.seq (.region [oT 10 7 (.bin .lss) [9,8]])
 (.seq (.cond (.t 10) (.skip) (.exit 0))
 (.seq (.block 1 (.seq (.region [oT 11 8 .move [9],
 oT 12 9 (.indexAddr 13 none) [7,9],
 oT 13 10 (.load true 13) [12],
 oT 5 11 (.alloc [.str ByteArray.empty,.str ByteArray.empty,.int .i64 (0),.int .i64 (0),.int .i64 (0),.int .i64 (0),.slice (.own 0) 2 0 gnil,.str ByteArray.empty,.str ByteArray.empty,.int .i64 (0),.int .i64 (0),.str ByteArray.empty,.int .i64 (0)]) [],
 oT 4 25 .move [11],
 ⟨none,26,(.store 13),[.t 5,.t 13],none⟩])
 (.seq (.block 2 (.seq (.region [oT 15 27 (.fieldAddr 0) [5],
 oT 16 28 (.load true 10) [15],
 oT 17 29 (.call false 24) [16],
 oT 18 33 (.un .not) [17],
 oT 19 34 .move [18],
 oG 20 35 (.fieldAddr 10) [5] 19 false,
 oG 21 36 (.load false 1) [20] 19 false,
 oG 22 37 .move [3] 19 false,
 oG 23 38 (.bin .leq) [21,22] 19 false,
 ⟨(some 24),39,.pick,[.t 19,.c (.bool true),.t 23],none⟩,
 oT 25 40 .move [24],
 oG 26 41 (.fieldAddr 10) [5] 25 false,
 oG 27 42 (.load false 1) [26] 25 false,
 oG 28 43 (.fieldAddr 1) [1] 25 false,
 oG 29 44 (.load false 1) [28] 25 false,
 oG 30 45 (.bin .geq) [27,29] 25 false,
 ⟨(some 31),46,.pick,[.t 25,.c (.bool true),.t 30],none⟩,
 oT 32 47 .move [31],
 oG 33 48 (.fieldAddr 12) [5] 32 false,
 oG 34 49 (.load false 1) [33] 32 false,
 ⟨(some 35),50,(.bin .lss),[.t 34,.c (.int .i64 (0))],(some (32,false))⟩,
 ⟨(some 36),51,.pick,[.t 32,.c (.bool true),.t 35],none⟩,
 oT 37 52 .move [36],
 oG 38 53 (.fieldAddr 12) [5] 37 false,
 oG 39 54 (.load false 1) [38] 37 false,
 ⟨(some 40),55,(.bin .gtr),[.t 39,.c (.int .i64 (1099511627776))],(some (37,false))⟩,
 ⟨(some 41),56,.pick,[.t 37,.c (.bool true),.t 40],none⟩,
 oT 14 57 .move [41]])
 (.cond (.t 14) (.seq (.region [⟨(some 2),58,.move,[.c (.bool false)],none⟩])
 (.ret)) (.seq (.region [oT 43 59 (.fieldAddr 4) [1],
 oT 44 60 (.load false 1) [43],
 oT 45 61 (.fieldAddr 0) [5],
 oT 46 62 (.fieldAddr 0) [45],
 oT 47 63 (.load false 1) [46],
 oT 48 64 (.call false 31) [44,47],
 oT 49 68 .move [4],
 oT 50 69 (.bin .neq) [48,49],
 oT 51 70 .move [50],
 oG 52 71 (.load true 5) [1] 51 false,
 oG 53 72 (.fieldAddr 0) [5] 51 false,
 oG 54 73 (.fieldAddr 1) [53] 51 false,
 oG 55 74 (.load false 1) [54] 51 false,
 oG 56 75 (.call false 184) [52,55] 51 false,
 ⟨(some 57),79,(.bin .lss),[.t 56,.c (.int .i64 (0))],(some (51,false))⟩,
 ⟨(some 58),80,.pick,[.t 51,.c (.bool true),.t 57],none⟩,
 oT 42 81 .move [58]])
 (.cond (.t 42) (.seq (.region [⟨(some 2),82,.move,[.c (.bool false)],none⟩])
 (.ret)) (.seq (.region [oT 60 83 (.load true 13) [5],
 oT 61 84 (.call false 33) [60],
 oT 62 88 (.un .not) [61],
 oT 63 89 .move [62],
 oG 64 90 (.load true 5) [1] 63 true,
 oG 65 91 .move [4] 63 true,
 oG 66 92 (.call false 368) [64,65] 63 true,
 oG 67 96 (.un .not) [66] 63 true,
 ⟨(some 68),97,.pick,[.t 63,.t 67,.c (.bool false)],none⟩,
 oT 59 98 .move [68]])
 (.cond (.t 59) (.seq (.region [⟨(some 2),99,.move,[.c (.bool false)],none⟩])
 (.ret)) (.skip))))))))
 (.region [oT 69 100 (.fieldAddr 10) [5],
 oT 70 101 (.load false 1) [69],
 oT 3 102 .move [70]]))))
 (.region [⟨(some 71),103,(.bin .add),[.t 9,.c (.int .i64 (1))],none⟩,
 oT 9 104 .move [71]])))))))
 (.seq (.region [oT 72 105 (.fieldAddr 4) [1],
 oT 73 106 (.load false 1) [72],
 oT 74 107 (.len false) [73],
 ⟨(some 75),108,(.bin .leq),[.t 74,.c (.int .i64 (48))],none⟩,
 oT 2 109 .move [75]])
 (.ret)))))
 [.tmp 2] 0 75
def f364.env : Env := [(24,f24.C),(31,f31.C),(184,f184.C),(33,f33.C),(368,f368.C)]
def f364.tree (a : T_api_State) : Prop := ∃ (I2 : (Int × Int)→Prop) (μ3 : (Int × Int)→Nat),(∃ x1 : Int × Int,((0 : Int) = x1.1)∧SlS e_api_Job a.2.2.2.2 (((a.2.2.2.2.length : Int) = (a.2.2.2.2.length : Int))∧((0 : Int) = x1.2)∧(a.1 = a.1)∧(a.2.1 = a.2.1)∧SlS e_api_Machine a.2.2.1 (SlS e_api_Queue a.2.2.2.1 (SlS e_api_Job a.2.2.2.2 (I2 x1)))))∧∀ y4 : Int × Int,I2 y4→(Br (decide (y4.2 < (a.2.2.2.2.length : Int))) (Br (decide ((0 : Int)≤y4.2) && decide (y4.2 < (a.2.2.2.2.length : Int))) (∃ c8 : T_api_Task,((((at_ a.2.2.2.2 y4.2).1).1) = c8.1)∧((((at_ a.2.2.2.2 y4.2).1).2.1) = c8.2.1)∧((((at_ a.2.2.2.2 y4.2).1).2.2.1) = c8.2.2.1)∧(((((at_ a.2.2.2.2 y4.2).1).2.2.2.1).1) = c8.2.2.2.1.1)∧(((((at_ a.2.2.2.2 y4.2).1).2.2.2.1).2.1) = c8.2.2.2.1.2.1)∧(((((at_ a.2.2.2.2 y4.2).1).2.2.2.1).2.2) = c8.2.2.2.1.2.2)∧SlQ ((((at_ a.2.2.2.2 y4.2).1).2.2.2.2.1).length) c8.2.2.2.2.1.length (gl e_api_Label (((at_ a.2.2.2.2 y4.2).1).2.2.2.2.1)) (gl e_api_Label c8.2.2.2.2.1) (((((at_ a.2.2.2.2 y4.2).1).2.2.2.2.2.1) = c8.2.2.2.2.2.1)∧((((at_ a.2.2.2.2 y4.2).1).2.2.2.2.2.2.1) = c8.2.2.2.2.2.2.1)∧((((at_ a.2.2.2.2 y4.2).1).2.2.2.2.2.2.2) = c8.2.2.2.2.2.2.2)∧(task_pre c8)∧Br (!(taskB c8)) ((false = (jobsB a))∧True) (Br (decide (((at_ a.2.2.2.2 y4.2).2.1)≤y4.1)) ((false = (jobsB a))∧True) (Br (decide (a.2.1≤((at_ a.2.2.2.2 y4.2).2.1))) ((false = (jobsB a))∧True) (Br (decide (((at_ a.2.2.2.2 y4.2).2.2.2) < (0 : Int))) ((false = (jobsB a))∧True) (Br (decide ((1099511627776 : Int) < ((at_ a.2.2.2.2 y4.2).2.2.2))) ((false = (jobsB a))∧True) (∃ c24 : (List (T_api_Job)) × ByteArray,SlQ a.2.2.2.2.length c24.1.length (gl e_api_Job a.2.2.2.2) (gl e_api_Job c24.1) (((((at_ a.2.2.2.2 y4.2).1).1) = c24.2)∧(find_pre c24)∧Br ((findR c24) != y4.2) ((false = (jobsB a))∧True) (∃ c28 : T_api_State × ByteArray,(a.1 = c28.1.1)∧(a.2.1 = c28.1.2.1)∧SlQ a.2.2.1.length c28.1.2.2.1.length (gl e_api_Machine a.2.2.1) (gl e_api_Machine c28.1.2.2.1) (SlQ a.2.2.2.1.length c28.1.2.2.2.1.length (gl e_api_Queue a.2.2.2.1) (gl e_api_Queue c28.1.2.2.2.1) (SlQ a.2.2.2.2.length c28.1.2.2.2.2.length (gl e_api_Job a.2.2.2.2) (gl e_api_Job c28.1.2.2.2.2) (((((at_ a.2.2.2.2 y4.2).1).2.1) = c28.2)∧(machR_pre c28)∧Br (decide ((queueR c28) < (0 : Int))) ((false = (jobsB a))∧True) (∃ c32 : T_api_Job,((((at_ a.2.2.2.2 y4.2).1).1) = c32.1.1)∧((((at_ a.2.2.2.2 y4.2).1).2.1) = c32.1.2.1)∧((((at_ a.2.2.2.2 y4.2).1).2.2.1) = c32.1.2.2.1)∧(((((at_ a.2.2.2.2 y4.2).1).2.2.2.1).1) = c32.1.2.2.2.1.1)∧(((((at_ a.2.2.2.2 y4.2).1).2.2.2.1).2.1) = c32.1.2.2.2.1.2.1)∧(((((at_ a.2.2.2.2 y4.2).1).2.2.2.1).2.2) = c32.1.2.2.2.1.2.2)∧SlQ ((((at_ a.2.2.2.2 y4.2).1).2.2.2.2.1).length) c32.1.2.2.2.2.1.length (gl e_api_Label (((at_ a.2.2.2.2 y4.2).1).2.2.2.2.1)) (gl e_api_Label c32.1.2.2.2.2.1) (((((at_ a.2.2.2.2 y4.2).1).2.2.2.2.2.1) = c32.1.2.2.2.2.2.1)∧((((at_ a.2.2.2.2 y4.2).1).2.2.2.2.2.2.1) = c32.1.2.2.2.2.2.2.1)∧((((at_ a.2.2.2.2 y4.2).1).2.2.2.2.2.2.2) = c32.1.2.2.2.2.2.2.2)∧(((at_ a.2.2.2.2 y4.2).2.1) = c32.2.1)∧(((at_ a.2.2.2.2 y4.2).2.2.1) = c32.2.2.1)∧(((at_ a.2.2.2.2 y4.2).2.2.2) = c32.2.2.2)∧True∧Br (!(waitsR c32)) (∃ c35 : T_api_State × Int,(a.1 = c35.1.1)∧(a.2.1 = c35.1.2.1)∧SlQ a.2.2.1.length c35.1.2.2.1.length (gl e_api_Machine a.2.2.1) (gl e_api_Machine c35.1.2.2.1) (SlQ a.2.2.2.1.length c35.1.2.2.2.1.length (gl e_api_Queue a.2.2.2.1) (gl e_api_Queue c35.1.2.2.2.1) (SlQ a.2.2.2.2.length c35.1.2.2.2.2.length (gl e_api_Job a.2.2.2.2) (gl e_api_Job c35.1.2.2.2.2) ((y4.2 = c35.2)∧(stands_pre c35)∧Br (!(standsB c35)) ((false = (jobsB a))∧True) (Let (IntKind.i64.wrap (y4.2 + (1 : Int))) (fun v39 : Int => ∃ x40 : Int × Int,(((at_ a.2.2.2.2 y4.2).2.1) = x40.1)∧SlS e_api_Job a.2.2.2.2 (((a.2.2.2.2.length : Int) = (a.2.2.2.2.length : Int))∧(v39 = x40.2)∧(a.1 = a.1)∧(a.2.1 = a.2.1)∧SlS e_api_Machine a.2.2.1 (SlS e_api_Queue a.2.2.2.1 (SlS e_api_Job a.2.2.2.2 (I2 x40∧μ3 x40 < μ3 y4)))))))))) (Let (IntKind.i64.wrap (y4.2 + (1 : Int))) (fun v48 : Int => ∃ x49 : Int × Int,(((at_ a.2.2.2.2 y4.2).2.1) = x49.1)∧SlS e_api_Job a.2.2.2.2 (((a.2.2.2.2.length : Int) = (a.2.2.2.2.length : Int))∧(v48 = x49.2)∧(a.1 = a.1)∧(a.2.1 = a.2.1)∧SlS e_api_Machine a.2.2.1 (SlS e_api_Queue a.2.2.2.1 (SlS e_api_Job a.2.2.2.2 (I2 x49∧μ3 x49 < μ3 y4)))))))))))))))))))) False) (((decide ((a.2.2.2.2.length : Int)≤(48 : Int))) = (jobsB a))∧True))
def f364.vc (a : T_api_State) : Prop := (∃ (I2 : (Int × Int)→Prop) (μ3 : (Int × Int)→Nat),I2 ((0 : Int),(0 : Int))∧∀ y4 : Int × Int,I2 y4→((y4.2 < (a.2.2.2.2.length : Int)→((0 : Int)≤y4.2∧y4.2 < (a.2.2.2.2.length : Int)∧(task_pre ((at_ a.2.2.2.2 y4.2).1)∧((¬ ((taskB ((at_ a.2.2.2.2 y4.2).1)) = true)→(false = jobsB a))∧(¬ (¬ ((taskB ((at_ a.2.2.2.2 y4.2).1)) = true))→((((at_ a.2.2.2.2 y4.2).2.1)≤y4.1→(false = jobsB a))∧(¬ (((at_ a.2.2.2.2 y4.2).2.1)≤y4.1)→((a.2.1≤((at_ a.2.2.2.2 y4.2).2.1)→(false = jobsB a))∧(¬ (a.2.1≤((at_ a.2.2.2.2 y4.2).2.1))→((((at_ a.2.2.2.2 y4.2).2.2.2) < (0 : Int)→(false = jobsB a))∧(¬ (((at_ a.2.2.2.2 y4.2).2.2.2) < (0 : Int))→(((1099511627776 : Int) < ((at_ a.2.2.2.2 y4.2).2.2.2)→(false = jobsB a))∧(¬ ((1099511627776 : Int) < ((at_ a.2.2.2.2 y4.2).2.2.2))→(find_pre (a.2.2.2.2,((at_ a.2.2.2.2 y4.2).1).1)∧((¬ (findR (a.2.2.2.2,((at_ a.2.2.2.2 y4.2).1).1)) = y4.2→(false = jobsB a))∧(¬ (¬ (findR (a.2.2.2.2,((at_ a.2.2.2.2 y4.2).1).1)) = y4.2)→(machR_pre (a,((at_ a.2.2.2.2 y4.2).1).2.1)∧(((queueR (a,((at_ a.2.2.2.2 y4.2).1).2.1)) < (0 : Int)→(false = jobsB a))∧(¬ ((queueR (a,((at_ a.2.2.2.2 y4.2).1).2.1)) < (0 : Int))→((¬ ((waitsR (((at_ a.2.2.2.2 y4.2).1),(at_ a.2.2.2.2 y4.2).2.1,(at_ a.2.2.2.2 y4.2).2.2.1,(at_ a.2.2.2.2 y4.2).2.2.2)) = true)→(stands_pre (a,y4.2)∧((¬ ((standsB (a,y4.2)) = true)→(false = jobsB a))∧(¬ (¬ ((standsB (a,y4.2)) = true))→(-9223372036854775808≤(y4.2 + (1 : Int))∧(y4.2 + (1 : Int))≤9223372036854775807∧(I2 ((at_ a.2.2.2.2 y4.2).2.1,(y4.2 + (1 : Int)))∧μ3 ((at_ a.2.2.2.2 y4.2).2.1,(y4.2 + (1 : Int))) < μ3 y4))))))∧(¬ (¬ ((waitsR (((at_ a.2.2.2.2 y4.2).1),(at_ a.2.2.2.2 y4.2).2.1,(at_ a.2.2.2.2 y4.2).2.2.1,(at_ a.2.2.2.2 y4.2).2.2.2)) = true))→(-9223372036854775808≤(y4.2 + (1 : Int))∧(y4.2 + (1 : Int))≤9223372036854775807∧(I2 ((at_ a.2.2.2.2 y4.2).2.1,(y4.2 + (1 : Int)))∧μ3 ((at_ a.2.2.2.2 y4.2).2.1,(y4.2 + (1 : Int))) < μ3 y4)))))))))))))))))))))))∧(¬ (y4.2 < (a.2.2.2.2.length : Int))→(decide ((a.2.2.2.2.length : Int)≤(48 : Int)) = jobsB a))))
set_option maxRecDepth 100000 in
set_option maxHeartbeats 2000000 in
theorem f364.of (a : T_api_State) (h : f364.vc a) : f364.tree a := Exists.elim h (fun I2 h78_ => Exists.elim h78_ (fun μ3 h78 => ⟨I2,μ3,⟨((0 : Int),(0 : Int)),⟨rfl,SlS.mk  (⟨rfl,⟨rfl,⟨rfl,⟨rfl,SlS.mk  (SlS.mk  (SlS.mk  (h78.1)))⟩⟩⟩⟩)⟩⟩,fun y4 h80 => br (h78.2 y4 h80) Cnd.dec (fun h5 k76 => chk k76.2.2 Cnd.ix ⟨k76.1,k76.2.1⟩ (fun h7 k74 => ⟨((at_ a.2.2.2.2 y4.2).1),⟨rfl,⟨rfl,⟨rfl,⟨rfl,⟨rfl,⟨rfl,slQ (Rds.self (enc := e_api_Label)) (⟨rfl,⟨rfl,⟨rfl,⟨k74.1,br k74.2 (Cnd.not Cnd.b) (fun h9 k71 => ⟨k71,trivial⟩) (fun h10 k72 => br k72 Cnd.dec (fun h12 k69 => ⟨k69,trivial⟩) (fun h13 k70 => br k70 Cnd.dec (fun h15 k67 => ⟨k67,trivial⟩) (fun h16 k68 => br k68 Cnd.dec (fun h18 k65 => ⟨k65,trivial⟩) (fun h19 k66 => br k66 Cnd.dec (fun h21 k63 => ⟨k63,trivial⟩) (fun h22 k64 => ⟨(a.2.2.2.2,((at_ a.2.2.2.2 y4.2).1).1),slQ (Rds.self (enc := e_api_Job)) (⟨rfl,⟨k64.1,br k64.2 Cnd.ne (fun h25 k60 => ⟨k60,trivial⟩) (fun h26 k61 => ⟨(a,((at_ a.2.2.2.2 y4.2).1).2.1),⟨rfl,⟨rfl,slQ (Rds.self (enc := e_api_Machine)) (slQ (Rds.self (enc := e_api_Queue)) (slQ (Rds.self (enc := e_api_Job)) (⟨rfl,⟨k61.1,br k61.2 Cnd.dec (fun h29 k57 => ⟨k57,trivial⟩) (fun h30 k58 => ⟨(((at_ a.2.2.2.2 y4.2).1),(at_ a.2.2.2.2 y4.2).2.1,(at_ a.2.2.2.2 y4.2).2.2.1,(at_ a.2.2.2.2 y4.2).2.2.2),⟨rfl,⟨rfl,⟨rfl,⟨rfl,⟨rfl,⟨rfl,slQ (Rds.self (enc := e_api_Label)) (⟨rfl,⟨rfl,⟨rfl,⟨rfl,⟨rfl,⟨rfl,⟨trivial,br k58 (Cnd.not Cnd.b) (fun h33 k54 => ⟨(a,y4.2),⟨rfl,⟨rfl,slQ (Rds.self (enc := e_api_Machine)) (slQ (Rds.self (enc := e_api_Queue)) (slQ (Rds.self (enc := e_api_Job)) (⟨rfl,⟨k54.1,br k54.2 (Cnd.not Cnd.b) (fun h36 k45 => ⟨k45,trivial⟩) (fun h37 k46 => wrapK.i64 k46 (fun h42 h43 k44 => ⟨((at_ a.2.2.2.2 y4.2).2.1,(y4.2 + (1 : Int))),⟨rfl,SlS.mk  (⟨rfl,⟨rfl,⟨rfl,⟨rfl,SlS.mk  (SlS.mk  (SlS.mk  (k44)))⟩⟩⟩⟩)⟩⟩))⟩⟩)))⟩⟩⟩) (fun h34 k55 => wrapK.i64 k55 (fun h51 h52 k53 => ⟨((at_ a.2.2.2.2 y4.2).2.1,(y4.2 + (1 : Int))),⟨rfl,SlS.mk  (⟨rfl,⟨rfl,⟨rfl,⟨rfl,SlS.mk  (SlS.mk  (SlS.mk  (k53)))⟩⟩⟩⟩)⟩⟩))⟩⟩⟩⟩⟩⟩⟩)⟩⟩⟩⟩⟩⟩⟩)⟩⟩)))⟩⟩⟩)⟩⟩)⟩)))))⟩⟩⟩⟩)⟩⟩⟩⟩⟩⟩⟩)) (fun h6 k77 => ⟨k77,trivial⟩)⟩))
theorem f364.eq (a : T_api_State) : (f364.af a).gives f364.env (f364.args a) (f364.blks a) (f364.res a) (f364.blks' a) = f364.tree a := by kernel_rfl
end Go.Abs

-- interregnum/gen1.Right
namespace Go.Abs
open Go
def f357.args (a : T_api_State) : List D := [.agg [.int .i64 a.1,.int .i64 a.2.1,.slice .ro 7 a.2.2.1.length (gl e_api_Machine a.2.2.1),.slice .ro 4 a.2.2.2.1.length (gl e_api_Queue a.2.2.2.1),.slice .ro 13 a.2.2.2.2.length (gl e_api_Job a.2.2.2.2)]]
def f357.blks (a : T_api_State) : List (List D) := []
def f357.res (a : T_api_State) : List D := [.bool (stateB a)]
def f357.blks' (a : T_api_State) : List (List D) := []
def f357.C : Contract := FnC f357.args f357.blks (fun a => state_pre a) f357.res f357.blks'
end Go.Abs

/- interregnum/gen1.Right -/
namespace Go.Abs
open Go
set_option linter.unusedVariables false
def f357.kills (a : T_api_State) : List Hint := []
def f357.cuts (a : T_api_State) : List (Nat × Σ β : Type,β→Tm) := []
def f357.af (a : T_api_State) : AF := AF.mk (.seq (.region [oT 1 0 .box [0],
 ⟨(some 2),1,.move,[.c (.bool false)],none⟩])
 (.seq (.seq (.region [oT 3 2 (.fieldAddr 0) [1],
 oT 4 3 (.load false 1) [3],
 ⟨(some 5),4,(.bin .lss),[.t 4,.c (.int .i64 (0))],none⟩,
 oT 6 5 .move [5],
 oG 7 6 (.fieldAddr 0) [1] 6 false,
 oG 8 7 (.load false 1) [7] 6 false,
 ⟨(some 9),8,(.bin .gtr),[.t 8,.c (.int .i64 (1073741824))],(some (6,false))⟩,
 ⟨(some 10),9,.pick,[.t 6,.c (.bool true),.t 9],none⟩,
 oT 11 10 .move [10],
 oG 12 11 (.fieldAddr 1) [1] 11 false,
 oG 13 12 (.load false 1) [12] 11 false,
 ⟨(some 14),13,(.bin .lss),[.t 13,.c (.int .i64 (1))],(some (11,false))⟩,
 ⟨(some 15),14,.pick,[.t 11,.c (.bool true),.t 14],none⟩,
 oT 16 15 .move [15],
 oG 17 16 (.fieldAddr 1) [1] 16 false,
 oG 18 17 (.load false 1) [17] 16 false,
 ⟨(some 19),18,(.bin .gtr),[.t 18,.c (.int .i64 (1073741824))],(some (16,false))⟩,
 ⟨(some 20),19,.pick,[.t 16,.c (.bool true),.t 19],none⟩])
 (.cond (.t 20) (.seq (.region [⟨(some 2),20,.move,[.c (.bool false)],none⟩])
 (.ret)) (.skip)))
 (.seq (.region [oT 21 21 (.load true 5) [1],
 oT 22 22 (.call false 362) [21],
 oT 23 26 .move [22],
 oG 24 27 (.load true 5) [1] 23 true,
 oG 25 28 (.call false 363) [24] 23 true,
 ⟨(some 26),32,.pick,[.t 23,.t 25,.c (.bool false)],none⟩,
 oT 27 33 .move [26],
 oG 28 34 (.load true 5) [1] 27 true,
 oG 29 35 (.call false 364) [28] 27 true,
 ⟨(some 30),39,.pick,[.t 27,.t 29,.c (.bool false)],none⟩,
 oT 2 40 .move [30]])
 (.ret))))
 [.tmp 2] 0 30
def f357.env : Env := [(362,f362.C),(363,f363.C),(364,f364.C)]
def f357.tree (a : T_api_State) : Prop := Br (decide (a.1 < (0 : Int))) ((false = (stateB a))∧True) (Br (decide ((1073741824 : Int) < a.1)) ((false = (stateB a))∧True) (Br (decide (a.2.1 < (1 : Int))) ((false = (stateB a))∧True) (Br (decide ((1073741824 : Int) < a.2.1)) ((false = (stateB a))∧True) (∃ c13 : T_api_State,(a.1 = c13.1)∧(a.2.1 = c13.2.1)∧SlQ a.2.2.1.length c13.2.2.1.length (gl e_api_Machine a.2.2.1) (gl e_api_Machine c13.2.2.1) (SlQ a.2.2.2.1.length c13.2.2.2.1.length (gl e_api_Queue a.2.2.2.1) (gl e_api_Queue c13.2.2.2.1) (SlQ a.2.2.2.2.length c13.2.2.2.2.length (gl e_api_Job a.2.2.2.2) (gl e_api_Job c13.2.2.2.2) ((state_pre c13)∧Br (machsB c13) (∃ c16 : T_api_State,(a.1 = c16.1)∧(a.2.1 = c16.2.1)∧SlQ a.2.2.1.length c16.2.2.1.length (gl e_api_Machine a.2.2.1) (gl e_api_Machine c16.2.2.1) (SlQ a.2.2.2.1.length c16.2.2.2.1.length (gl e_api_Queue a.2.2.2.1) (gl e_api_Queue c16.2.2.2.1) (SlQ a.2.2.2.2.length c16.2.2.2.2.length (gl e_api_Job a.2.2.2.2) (gl e_api_Job c16.2.2.2.2) ((state_pre c16)∧Br (queuesB c16) (∃ c19 : T_api_State,(a.1 = c19.1)∧(a.2.1 = c19.2.1)∧SlQ a.2.2.1.length c19.2.2.1.length (gl e_api_Machine a.2.2.1) (gl e_api_Machine c19.2.2.1) (SlQ a.2.2.2.1.length c19.2.2.2.1.length (gl e_api_Queue a.2.2.2.1) (gl e_api_Queue c19.2.2.2.1) (SlQ a.2.2.2.2.length c19.2.2.2.2.length (gl e_api_Job a.2.2.2.2) (gl e_api_Job c19.2.2.2.2) ((state_pre c19)∧((jobsB c19) = (stateB a))∧True)))) ((false = (stateB a))∧True))))) ((false = (stateB a))∧True))))))))
def f357.vc (a : T_api_State) : Prop := ((a.1 < (0 : Int)→(false = stateB a))∧(¬ (a.1 < (0 : Int))→(((1073741824 : Int) < a.1→(false = stateB a))∧(¬ ((1073741824 : Int) < a.1)→((a.2.1 < (1 : Int)→(false = stateB a))∧(¬ (a.2.1 < (1 : Int))→(((1073741824 : Int) < a.2.1→(false = stateB a))∧(¬ ((1073741824 : Int) < a.2.1)→(state_pre a∧(((machsB a) = true→(state_pre a∧(((queuesB a) = true→(state_pre a∧((jobsB a) = stateB a)))∧(¬ ((queuesB a) = true)→(false = stateB a)))))∧(¬ ((machsB a) = true)→(false = stateB a))))))))))))
set_option maxRecDepth 100000 in
set_option maxHeartbeats 2000000 in
theorem f357.of (a : T_api_State) (h : f357.vc a) : f357.tree a := br h Cnd.dec (fun h1 k36 => ⟨k36,trivial⟩) (fun h2 k37 => br k37 Cnd.dec (fun h4 k34 => ⟨k34,trivial⟩) (fun h5 k35 => br k35 Cnd.dec (fun h7 k32 => ⟨k32,trivial⟩) (fun h8 k33 => br k33 Cnd.dec (fun h10 k30 => ⟨k30,trivial⟩) (fun h11 k31 => ⟨a,⟨rfl,⟨rfl,slQ (Rds.self (enc := e_api_Machine)) (slQ (Rds.self (enc := e_api_Queue)) (slQ (Rds.self (enc := e_api_Job)) (⟨k31.1,br k31.2 Cnd.b (fun h14 k27 => ⟨a,⟨rfl,⟨rfl,slQ (Rds.self (enc := e_api_Machine)) (slQ (Rds.self (enc := e_api_Queue)) (slQ (Rds.self (enc := e_api_Job)) (⟨k27.1,br k27.2 Cnd.b (fun h17 k23 => ⟨a,⟨rfl,⟨rfl,slQ (Rds.self (enc := e_api_Machine)) (slQ (Rds.self (enc := e_api_Queue)) (slQ (Rds.self (enc := e_api_Job)) (⟨k23.1,⟨k23.2,trivial⟩⟩)))⟩⟩⟩) (fun h18 k24 => ⟨k24,trivial⟩)⟩)))⟩⟩⟩) (fun h15 k28 => ⟨k28,trivial⟩)⟩)))⟩⟩⟩))))
theorem f357.eq (a : T_api_State) : (f357.af a).gives f357.env (f357.args a) (f357.blks a) (f357.res a) (f357.blks' a) = f357.tree a := by kernel_rfl
end Go.Abs

/- States: what the code asks is so. -/
namespace Go.Abs
open Go

theorem f358.ok (a : TMach × ByteArray) (_ : True) : f358.vc a := by
  unfold f358.vc isMach
  rw [Bool.eq_iff_iff,beq_iff_eq,decide_eq_true_iff]
  exact toList_inj
theorem f204.ok (a : TMach × ByteArray) (_ : True) : f204.vc a := f358.ok a trivial
theorem f208.ok (a : TQueue × ByteArray) (_ : True) : f208.vc a := by
  unfold f208.vc isQueue
  rw [Bool.eq_iff_iff,beq_iff_eq,decide_eq_true_iff]
  exact toList_inj

def ixP {α : Type} (p : α → Bool) (l : List α) : Int := match l.findIdx? p with
  | some i => i
  | none => -1

theorem ixP_loop {α : Type} [Inhabited α] (p : α → Bool) (l : List α) (i : Int) (h0 : 0 ≤ i) (h1 : i < (l.length : Int)) (hb : ∀ q : Nat,q < i.toNat → p (l.getD q default) = false) (hp : p (at_ l i) = true) : i = ixP p l := by
  unfold ixP
  have hl : i.toNat < l.length := by omega
  have e : l.findIdx? p = some i.toNat := by
    rw [List.findIdx?_eq_some_iff_getElem]
    refine ⟨hl,?_,fun j hj => ?_⟩
    · have : l.getD i.toNat default = l[i.toNat] := by simp [hl]
      rw [← this]; exact hp
    · have := hb j hj
      have e2 : l.getD j default = l[j] := by
        have : j < l.length := by omega
        simp [this]
      rw [e2] at this
      simp [this]
  rw [e]
  simp
  omega
theorem ixP_end {α : Type} [Inhabited α] (p : α → Bool) (l : List α) (hb : ∀ q : Nat,q < l.length → p (l.getD q default) = false) : -1 = ixP p l := by
  unfold ixP
  have e : l.findIdx? p = none := by
    rw [List.findIdx?_eq_none_iff]
    intro x hx
    obtain ⟨j,hj,rfl⟩ := List.mem_iff_getElem.1 hx
    have := hb j hj
    rw [show l.getD j default = l[j] by simp [hj]] at this
    exact this
  rw [e]
theorem ixP_range {α : Type} [Inhabited α] (p : α → Bool) (l : List α) (h : ¬ ixP p l < 0) : 0 ≤ ixP p l ∧ ixP p l < (l.length : Int) ∧ p (at_ l (ixP p l)) = true := by
  unfold ixP at *
  cases e : l.findIdx? p with
  | none => rw [e] at h; exact absurd (by decide : (-1 : Int) < 0) h
  | some i =>
    rw [List.findIdx?_eq_some_iff_getElem] at e
    obtain ⟨h1,h2,_⟩ := e
    simp only
    refine ⟨by omega,by omega,?_⟩
    simp only [at_,Int.toNat_natCast]
    rw [show l.getD i default = l[i] by simp [h1]]
    exact h2

theorem f203.ok (a : List TMach × ByteArray) (h : LL20 a) : f203.vc a := by
  obtain ⟨l,n⟩ := a
  have h : l.length ≤ 1048576 := h
  refine ⟨fun i => (0 ≤ i ∧ i ≤ (l.length : Int)) ∧ ∀ q : Nat,q < i.toNat → isMach (l.getD q default,n) = false,fun i => l.length - i.toNat,⟨⟨by omega,by simp⟩,fun q hq => by simp at hq⟩,fun i hi => ?_⟩
  obtain ⟨⟨g0,g1⟩,g2⟩ := hi
  simp only at *
  refine ⟨fun hlt => ⟨g0,hlt,fun c => ixP_loop (fun m => isMach (m,n)) l i g0 hlt g2 c,fun c => ⟨by omega,by omega,⟨⟨by omega,by omega⟩,fun q hq => ?_⟩,by omega⟩⟩,fun hge => ixP_end (fun m => isMach (m,n)) l fun q hq => g2 q (by omega)⟩
  by_cases hqi : q = i.toNat
  · subst hqi
    exact Bool.eq_false_iff.2 c
  · exact g2 q (by omega)
theorem f1203.ok (a : List TMach × ByteArray) (h : LL20 a) : f1203.vc a := f203.ok a h
theorem f207.ok (a : List TQueue × ByteArray) (h : LL20 a) : f207.vc a := by
  obtain ⟨l,n⟩ := a
  have h : l.length ≤ 1048576 := h
  refine ⟨fun i => (0 ≤ i ∧ i ≤ (l.length : Int)) ∧ ∀ q : Nat,q < i.toNat → isQueue (l.getD q default,n) = false,fun i => l.length - i.toNat,⟨⟨by omega,by simp⟩,fun q hq => by simp at hq⟩,fun i hi => ?_⟩
  obtain ⟨⟨g0,g1⟩,g2⟩ := hi
  simp only at *
  refine ⟨fun hlt => ⟨g0,hlt,fun c => ixP_loop (fun m => isQueue (m,n)) l i g0 hlt g2 c,fun c => ⟨by omega,by omega,⟨⟨by omega,by omega⟩,fun q hq => ?_⟩,by omega⟩⟩,fun hge => ixP_end (fun m => isQueue (m,n)) l fun q hq => g2 q (by omega)⟩
  by_cases hqi : q = i.toNat
  · subst hqi
    exact Bool.eq_false_iff.2 c
  · exact g2 q (by omega)
theorem f178.ok (a : TState × ByteArray) (h : machR_pre a) : f178.vc a := ⟨h.1.1,rfl⟩
theorem f184.ok (a : TState × ByteArray) (h : machR_pre a) : f184.vc a := ⟨h.2.1.1,rfl⟩
theorem f370.ok (a : TState × ByteArray) (h : machR_pre a) : f370.vc a := by
  obtain ⟨s,n⟩ := a
  have h : s.2.2.1.length ≤ 1048576 := h.1.1
  refine ⟨fun i => (0 ≤ i ∧ i ≤ (s.2.2.1.length : Int)) ∧ ∀ q : Nat,q < i.toNat → isMach (s.2.2.1.getD q default,n) = false,fun i => s.2.2.1.length - i.toNat,⟨⟨by omega,by simp⟩,fun q hq => by simp at hq⟩,fun i hi => ?_⟩
  obtain ⟨⟨g0,g1⟩,g2⟩ := hi
  simp only at *
  refine ⟨fun hlt => ⟨g0,hlt,fun c => ixP_loop (fun m => isMach (m,n)) _ i g0 hlt g2 (decide_eq_true c),fun c => ⟨by omega,by omega,⟨⟨by omega,by omega⟩,fun q hq => ?_⟩,by omega⟩⟩,fun hge => ixP_end (fun m => isMach (m,n)) _ fun q hq => g2 q (by have hq : q < s.2.2.1.length := hq; omega)⟩
  by_cases hqi : q = i.toNat
  · subst hqi
    exact decide_eq_false c
  · exact g2 q (by omega)
theorem f366.ok (a : TState × ByteArray) (h : machR_pre a) : f366.vc a := by
  obtain ⟨s,n⟩ := a
  have h : s.2.2.2.1.length ≤ 1048576 := h.2.1.1
  refine ⟨fun i => (0 ≤ i ∧ i ≤ (s.2.2.2.1.length : Int)) ∧ ∀ q : Nat,q < i.toNat → isQueue (s.2.2.2.1.getD q default,n) = false,fun i => s.2.2.2.1.length - i.toNat,⟨⟨by omega,by simp⟩,fun q hq => by simp at hq⟩,fun i hi => ?_⟩
  obtain ⟨⟨g0,g1⟩,g2⟩ := hi
  simp only at *
  refine ⟨fun hlt => ⟨g0,hlt,fun c => ixP_loop (fun m => isQueue (m,n)) _ i g0 hlt g2 (decide_eq_true c),fun c => ⟨by omega,by omega,⟨⟨by omega,by omega⟩,fun q hq => ?_⟩,by omega⟩⟩,fun hge => ixP_end (fun m => isQueue (m,n)) _ fun q hq => g2 q (by have hq : q < s.2.2.2.1.length := hq; omega)⟩
  by_cases hqi : q = i.toNat
  · subst hqi
    exact decide_eq_false c
  · exact g2 q (by omega)

theorem machOk_iff {s : TState} {i : Nat} : machOk s i = true ↔ nodeB (machAt s i).1 = true ∧ (0 ≤ (machAt s i).2.2 ∧ (machAt s i).2.2 ≤ 1073741828) ∧ slt (if i = 0 then ByteArray.empty else (machAt s (i - 1)).1.1) (machAt s i).1.1 = true ∧ (freeR (machAt s i,s.2.2.2.2)).2 = 0 := by
  simp [machOk,and_assoc]
theorem queueOk_iff {s : TState} {i : Nat} : queueOk s i = true ↔ queueB (queueAt s i) = true ∧ slt (if i = 0 then ByteArray.empty else (queueAt s (i - 1)).1) (queueAt s i).1 = true ∧ (usedR (s.2.2.2.2,(queueAt s i).1)).2 = 0 ∧ fitsR ((usedR (s.2.2.2.2,(queueAt s i).1)).1,(queueAt s i).2) = true := by
  simp [queueOk,and_assoc]
theorem jobOk_iff {s : TState} {i : Nat} : jobOk s i = true ↔ taskB (jobAt s i).1 = true ∧ ((if i = 0 then 0 else (jobAt s (i - 1)).2.1) < (jobAt s i).2.1 ∧ (jobAt s i).2.1 < s.2.1 ∧ 0 ≤ (jobAt s i).2.2.2 ∧ (jobAt s i).2.2.2 ≤ 1099511627776) ∧
    (findR (s.2.2.2.2,(jobAt s i).1.1) = (i : Int) ∧ 0 ≤ queueR (s,(jobAt s i).1.2.1)) ∧ ((jobAt s i).2.2.1 = ByteArray.empty ∨ standsN s i = true) := by
  simp only [jobOk,Bool.and_eq_true,Bool.or_eq_true,decide_eq_true_eq,and_assoc]
theorem machsB_iff {s : TState} : machsB s = true ↔ (∀ i,i < s.2.2.1.length → machOk s i = true) ∧ s.2.2.1.length ≤ 16 := by
  simp [machsB]
theorem queuesB_iff {s : TState} : queuesB s = true ↔ (∀ i,i < s.2.2.2.1.length → queueOk s i = true) ∧ s.2.2.2.1.length ≤ 8 := by
  simp [queuesB]
theorem jobsB_iff {s : TState} : jobsB s = true ↔ (∀ i,i < s.2.2.2.2.length → jobOk s i = true) ∧ s.2.2.2.2.length ≤ 48 := by
  simp [jobsB]
theorem stateB_iff {s : TState} : stateB s = true ↔ (0 ≤ s.1 ∧ s.1 ≤ 1073741824 ∧ 1 ≤ s.2.1 ∧ s.2.1 ≤ 1073741824) ∧ machsB s = true ∧ queuesB s = true ∧ jobsB s = true := by
  simp [stateB,and_assoc]

theorem no_of {b : Bool} (h : ¬ b = true) : false = b := (Bool.eq_false_iff.2 h).symm

theorem f357.ok (a : TState) (h : state_pre a) : f357.vc a := by
  unfold f357.vc
  refine ⟨fun c => no_of fun hh => ?_,fun c1 => ⟨fun c => no_of fun hh => ?_,fun c2 => ⟨fun c => no_of fun hh => ?_,fun c3 => ⟨fun c => no_of fun hh => ?_,fun c4 => ⟨h,fun c5 => ⟨h,fun c6 => ⟨h,?_⟩,fun c => no_of fun hh => c (stateB_iff.1 hh).2.2.1⟩,fun c => no_of fun hh => c (stateB_iff.1 hh).2.1⟩⟩⟩⟩⟩
  · have := (stateB_iff.1 hh).1; omega
  · have := (stateB_iff.1 hh).1; omega
  · have := (stateB_iff.1 hh).1; omega
  · have := (stateB_iff.1 hh).1; omega
  · unfold stateB
    rw [c5,c6,decide_eq_true ⟨by omega,by omega,by omega,by omega⟩]
    simp

theorem f362.ok (a : TState) (h : state_pre a) : f362.vc a := by
  have hl : a.2.2.1.length ≤ 1048576 := h.1.1
  refine ⟨fun y => (0 ≤ y.2 ∧ y.2 ≤ (a.2.2.1.length : Int)) ∧ y.1 = (if y.2.toNat = 0 then ByteArray.empty else (machAt a (y.2.toNat - 1)).1.1) ∧ ∀ q : Nat,q < y.2.toNat → machOk a q = true,fun y => a.2.2.1.length - y.2.toNat,⟨⟨Int.le_refl _,by simp⟩,rfl,fun q hq => by simp at hq⟩,fun y hy => ?_⟩
  obtain ⟨last,i⟩ := y
  simp only at hy
  obtain ⟨⟨g0,g1⟩,rfl,g2⟩ := hy
  simp only
  have no : i < (a.2.2.1.length : Int) → ¬ machOk a i.toNat = true → false = machsB a := fun hlt hh => no_of fun e => hh ((machsB_iff.1 e).1 _ (by omega))
  refine ⟨fun hlt => ⟨g0,hlt,(h.1.2 _ (at_mem g0 hlt)).1,fun c => no hlt fun hh => c (machOk_iff.1 hh).1,fun c1 => ⟨fun c => no hlt fun hh => ?_,fun c2 => ⟨fun c => no hlt fun hh => ?_,fun c3 => ⟨fun c => no hlt fun hh => ?_,fun c4 => ⟨h.2.2.1,fun c => no hlt fun hh => c (machOk_iff.1 hh).2.2.2,fun c5 => ⟨by omega,by omega,⟨⟨by omega,by omega⟩,?_,fun q hq => ?_⟩,by omega⟩⟩⟩⟩⟩⟩,fun hge => ?_⟩
  · have h1 := (machOk_iff.1 hh).2.1.1
    have c : (machAt a i.toNat).2.2 < 0 := c
    omega
  · have h1 := (machOk_iff.1 hh).2.1.2
    have c : 1073741828 < (machAt a i.toNat).2.2 := c
    omega
  · have h1 := (machOk_iff.1 hh).2.2.1
    have h2 : slt _ (machAt a i.toNat).1.1 = false := slt_not.2 c
    rw [h2] at h1
    cases h1
  · rw [if_neg (by omega),show (i + 1).toNat - 1 = i.toNat from by omega]
    rfl
  · by_cases hqi : q = i.toNat
    · subst hqi
      have c4 : slt (if i.toNat = 0 then ByteArray.empty else (machAt a (i.toNat - 1)).1.1) (machAt a i.toNat).1.1 = true := by
        cases hs : slt (if i.toNat = 0 then ByteArray.empty else (machAt a (i.toNat - 1)).1.1) (machAt a i.toNat).1.1 with
        | true => rfl
        | false => exact absurd (slt_not.1 hs) c4
      have c2 : ¬ (machAt a i.toNat).2.2 < 0 := c2
      have c3 : ¬ 1073741828 < (machAt a i.toNat).2.2 := c3
      exact machOk_iff.2 ⟨Classical.not_not.1 c1,⟨by omega,by omega⟩,c4,Classical.not_not.1 c5⟩
    · exact g2 q (by omega)
  · rw [Bool.eq_iff_iff,machsB_iff,decide_eq_true_iff]
    exact ⟨fun e => ⟨fun q hq => g2 q (by omega),by omega⟩,fun e => by have := e.2; omega⟩

theorem f363.ok (a : TState) (h : state_pre a) : f363.vc a := by
  have hl : a.2.2.2.1.length ≤ 1048576 := h.2.1.1
  refine ⟨fun y => (0 ≤ y.2 ∧ y.2 ≤ (a.2.2.2.1.length : Int)) ∧ y.1 = (if y.2.toNat = 0 then ByteArray.empty else (queueAt a (y.2.toNat - 1)).1) ∧ ∀ q : Nat,q < y.2.toNat → queueOk a q = true,fun y => a.2.2.2.1.length - y.2.toNat,⟨⟨Int.le_refl _,by simp⟩,rfl,fun q hq => by simp at hq⟩,fun y hy => ?_⟩
  obtain ⟨last,i⟩ := y
  simp only at hy
  obtain ⟨⟨g0,g1⟩,rfl,g2⟩ := hy
  simp only
  have no : i < (a.2.2.2.1.length : Int) → ¬ queueOk a i.toNat = true → false = queuesB a := fun hlt hh => no_of fun e => hh ((queuesB_iff.1 e).1 _ (by omega))
  refine ⟨fun hlt => ⟨g0,hlt,h.2.1.2 _ (at_mem g0 hlt),fun c => no hlt fun hh => c (queueOk_iff.1 hh).1,fun c1 => ⟨fun c => no hlt fun hh => ?_,fun c4 => ⟨h.2.2.1,fun c => no hlt fun hh => c (queueOk_iff.1 hh).2.2.1,fun c5 => ⟨fun c => no hlt fun hh => c (queueOk_iff.1 hh).2.2.2,fun c6 => ⟨by omega,by omega,⟨⟨by omega,by omega⟩,?_,fun q hq => ?_⟩,by omega⟩⟩⟩⟩⟩,fun hge => ?_⟩
  · have h1 := (queueOk_iff.1 hh).2.1
    have h2 : slt _ (queueAt a i.toNat).1 = false := slt_not.2 c
    rw [h2] at h1
    cases h1
  · rw [if_neg (by omega),show (i + 1).toNat - 1 = i.toNat from by omega]
    rfl
  · by_cases hqi : q = i.toNat
    · subst hqi
      have c4 : slt (if i.toNat = 0 then ByteArray.empty else (queueAt a (i.toNat - 1)).1) (queueAt a i.toNat).1 = true := by
        cases hs : slt (if i.toNat = 0 then ByteArray.empty else (queueAt a (i.toNat - 1)).1) (queueAt a i.toNat).1 with
        | true => rfl
        | false => exact absurd (slt_not.1 hs) c4
      exact queueOk_iff.2 ⟨Classical.not_not.1 c1,c4,Classical.not_not.1 c5,Classical.not_not.1 c6⟩
    · exact g2 q (by omega)
  · rw [Bool.eq_iff_iff,queuesB_iff,decide_eq_true_iff]
    exact ⟨fun e => ⟨fun q hq => g2 q (by omega),by omega⟩,fun e => by have := e.2; omega⟩

theorem standsN_iff {s : TState} {i : Nat} : standsN s i = true ↔ 0 ≤ machR (s,(jobAt s i).2.2.1) ∧ (machAt s (machR (s,(jobAt s i).2.2.1)).toNat).2.1 = true ∧ 1 ≤ (jobAt s i).2.2.2 ∧ hasAll ((machAt s (machR (s,(jobAt s i).2.2.1)).toNat).1.2.2,(jobAt s i).1.2.2.2.2.1) = true ∧
    ∀ k,k < s.2.2.2.2.length → bothAt s i k = false := by
  simp [standsN,and_assoc]

theorem stands_loop (s : TState) (i : Int) (h : stands_pre (s,i)) {I : Int → Prop} (hI : ∀ k,I k ↔ (0 ≤ k ∧ k ≤ (s.2.2.2.2.length : Int)) ∧ ∀ q : Nat,q < k.toNat → bothAt s i.toNat q = false) {k : Int} (hk : I k) (hlt : k < (s.2.2.2.2.length : Int)) (hb : bothAt s i.toNat k.toNat = false) :
    -9223372036854775808 ≤ (k + (1 : Int)) ∧ (k + (1 : Int)) ≤ 9223372036854775807 ∧ (I (k + 1) ∧ s.2.2.2.2.length - (k + 1).toNat < s.2.2.2.2.length - k.toNat) := by
  have hl : s.2.2.2.2.length ≤ 1048576 := h.1.2.2.1
  obtain ⟨⟨k0,k1⟩,k2⟩ := (hI k).1 hk
  refine ⟨by omega,by omega,(hI _).2 ⟨⟨by omega,by omega⟩,fun q hq => ?_⟩,by omega⟩
  by_cases hqk : q = k.toNat
  · subst hqk; exact hb
  · exact k2 q (by omega)

theorem f368.ok (a : TState × Int) (h : stands_pre a) : f368.vc a := by
  obtain ⟨s,i⟩ := a
  have hp := h
  obtain ⟨hs,i0,i1⟩ := h
  simp only at i0 i1
  have hl : s.2.2.2.2.length ≤ 1048576 := hs.2.2.1
  have no : ¬ standsN s i.toNat = true → false = standsB (s,i) := fun hh => no_of hh
  unfold f368.vc
  refine ⟨i0,i1,hs,fun c => no fun hh => ?_,fun c1 => ?_⟩
  · have := (standsN_iff.1 hh).1
    have c : machR (s,(jobAt s i.toNat).2.2.1) < 0 := c
    omega
  obtain ⟨m0,m1,_⟩ := ixP_range _ _ c1
  have hm := hs.1.2 _ (at_mem m0 m1)
  have hj := hs.2.2.2 _ (at_mem (l := s.2.2.2.2) i0 i1)
  refine ⟨m0,m1,fun c => no fun hh => c (standsN_iff.1 hh).2.1,fun c2 => ⟨fun c => no fun hh => ?_,fun c3 => ⟨m0,m1,⟨hm.2,hj.2.1⟩,fun c => no fun hh => c (standsN_iff.1 hh).2.2.2.1,fun c4 => ?_⟩⟩⟩
  · have := (standsN_iff.1 hh).2.2.1
    have c : (jobAt s i.toNat).2.2.2 < 1 := c
    omega
  refine ⟨fun k => (0 ≤ k ∧ k ≤ (s.2.2.2.2.length : Int)) ∧ ∀ q : Nat,q < k.toNat → bothAt s i.toNat q = false,fun k => s.2.2.2.2.length - k.toNat,⟨⟨Int.le_refl _,by simp⟩,fun q hq => by simp at hq⟩,fun k hk => ?_⟩
  have go := fun hlt hb => stands_loop s i hp (fun _ => Iff.rfl) hk hlt hb
  obtain ⟨⟨k0,k1⟩,k2⟩ := hk
  simp only at *
  refine ⟨fun hlt => ⟨k0,hlt,fun d1 => ⟨fun d2 => ⟨fun d3 => ⟨fun d4 => no fun hh => ?_,fun d4 => go hlt ?_⟩,fun d3 => go hlt ?_⟩,fun d2 => go hlt ?_⟩,fun d1 => go hlt ?_⟩,fun hge => ?_⟩
  · have := (standsN_iff.1 hh).2.2.2.2 k.toNat (by omega)
    have hb : bothAt s i.toNat k.toNat = true := decide_eq_true ⟨by omega,d2,d3,d4⟩
    rw [hb] at this
    cases this
  · exact decide_eq_false fun e => d4 e.2.2.2
  · exact decide_eq_false fun e => d3 e.2.2.1
  · exact decide_eq_false fun e => d2 e.2.1
  · exact decide_eq_false fun e => d1 (by have := e.1; omega)
  · exact (standsN_iff.2 ⟨m0,Classical.not_not.1 c2,by have c3 : ¬ (jobAt s i.toNat).2.2.2 < 1 := c3; omega,Classical.not_not.1 c4,fun q hq => k2 q (by omega)⟩).symm

theorem f367.ok (a : TState × Int) (h : stands_pre a) : f367.vc a := by
  obtain ⟨s,i⟩ := a
  have hp := h
  obtain ⟨hs,i0,i1⟩ := h
  simp only at i0 i1
  have hl : s.2.2.2.2.length ≤ 1048576 := hs.2.2.1
  have no : ¬ standsN s i.toNat = true → false = standsB (s,i) := fun hh => no_of hh
  unfold f367.vc
  refine ⟨i0,i1,hs,fun c => no fun hh => ?_,fun c1 => ?_⟩
  · have := (standsN_iff.1 hh).1
    have c : machR (s,(jobAt s i.toNat).2.2.1) < 0 := c
    omega
  obtain ⟨m0,m1,_⟩ := ixP_range _ _ c1
  have hm := hs.1.2 _ (at_mem m0 m1)
  have hj := hs.2.2.2 _ (at_mem (l := s.2.2.2.2) i0 i1)
  refine ⟨m0,m1,fun c => no fun hh => c (standsN_iff.1 hh).2.1,fun c2 => ⟨fun c => no fun hh => ?_,fun c3 => ⟨m0,m1,⟨hm.2,hj.2.1⟩,fun c => no fun hh => c (standsN_iff.1 hh).2.2.2.1,fun c4 => ?_⟩⟩⟩
  · have := (standsN_iff.1 hh).2.2.1
    have c : (jobAt s i.toNat).2.2.2 < 1 := c
    omega
  refine ⟨fun k => (0 ≤ k ∧ k ≤ (s.2.2.2.2.length : Int)) ∧ ∀ q : Nat,q < k.toNat → bothAt s i.toNat q = false,fun k => s.2.2.2.2.length - k.toNat,⟨⟨Int.le_refl _,by simp⟩,fun q hq => by simp at hq⟩,fun k hk => ?_⟩
  have go := fun hlt hb => stands_loop s i hp (fun _ => Iff.rfl) hk hlt hb
  obtain ⟨⟨k0,k1⟩,k2⟩ := hk
  simp only at *
  refine ⟨fun hlt => ⟨fun d1 => ⟨k0,hlt,fun d2 => ⟨fun d3 => ⟨k0,hlt,fun d4 => no fun hh => ?_,fun d4 => go hlt ?_⟩,fun d3 => go hlt ?_⟩,fun d2 => go hlt ?_⟩,fun d1 => go hlt ?_⟩,fun hge => ?_⟩
  · have := (standsN_iff.1 hh).2.2.2.2 k.toNat (by omega)
    have hb : bothAt s i.toNat k.toNat = true := decide_eq_true ⟨by omega,d2,d3,d4⟩
    rw [hb] at this
    cases this
  · exact decide_eq_false fun e => d4 e.2.2.2
  · exact decide_eq_false fun e => d3 e.2.2.1
  · exact decide_eq_false fun e => d2 e.2.1
  · exact decide_eq_false fun e => d1 (by have := e.1; omega)
  · exact (standsN_iff.2 ⟨m0,Classical.not_not.1 c2,by have c3 : ¬ (jobAt s i.toNat).2.2.2 < 1 := c3; omega,Classical.not_not.1 c4,fun q hq => k2 q (by omega)⟩).symm

theorem f364.ok (a : TState) (h : state_pre a) : f364.vc a := by
  have hl : a.2.2.2.2.length ≤ 1048576 := h.2.2.1
  refine ⟨fun y => (0 ≤ y.2 ∧ y.2 ≤ (a.2.2.2.2.length : Int)) ∧ y.1 = (if y.2.toNat = 0 then 0 else (jobAt a (y.2.toNat - 1)).2.1) ∧ ∀ q : Nat,q < y.2.toNat → jobOk a q = true,fun y => a.2.2.2.2.length - y.2.toNat,⟨⟨Int.le_refl _,by simp⟩,rfl,fun q hq => by simp at hq⟩,fun y hy => ?_⟩
  obtain ⟨last,i⟩ := y
  simp only at hy
  obtain ⟨⟨g0,g1⟩,e,g2⟩ := hy
  simp only
  have no : i < (a.2.2.2.2.length : Int) → ¬ jobOk a i.toNat = true → false = jobsB a := fun hlt hh => no_of fun e => hh ((jobsB_iff.1 e).1 _ (by omega))
  have fin : i < (a.2.2.2.2.length : Int) → jobOk a i.toNat = true → -9223372036854775808 ≤ (i + (1 : Int)) ∧ (i + (1 : Int)) ≤ 9223372036854775807 ∧ ((((0 ≤ i + 1 ∧ i + 1 ≤ (a.2.2.2.2.length : Int)) ∧ (at_ a.2.2.2.2 i).2.1 = (if (i + 1).toNat = 0 then 0 else (jobAt a ((i + 1).toNat - 1)).2.1) ∧ ∀ q : Nat,q < (i + 1).toNat → jobOk a q = true)) ∧ a.2.2.2.2.length - (i + 1).toNat < a.2.2.2.2.length - i.toNat) := fun hlt hj => by
    refine ⟨by omega,by omega,⟨⟨by omega,by omega⟩,?_,fun q hq => ?_⟩,by omega⟩
    · rw [if_neg (by omega),show (i + 1).toNat - 1 = i.toNat from by omega]
      rfl
    · by_cases hqi : q = i.toNat
      · subst hqi; exact hj
      · exact g2 q (by omega)
  have seq : ∀ hh : jobOk a i.toNat = true,last < (at_ a.2.2.2.2 i).2.1 ∧ (at_ a.2.2.2.2 i).2.1 < a.2.1 ∧ 0 ≤ (at_ a.2.2.2.2 i).2.2.2 ∧ (at_ a.2.2.2.2 i).2.2.2 ≤ 1099511627776 := fun hh => by
    have := (jobOk_iff.1 hh).2.1
    rw [← e] at this
    exact this
  refine ⟨fun hlt => ⟨g0,hlt,(h.2.2.2 _ (at_mem g0 hlt)).1,fun c => no hlt fun hh => c (jobOk_iff.1 hh).1,fun c1 => ⟨fun c => no hlt fun hh => by have := seq hh; omega,fun c2 => ⟨fun c => no hlt fun hh => by have := seq hh; omega,fun c3 => ⟨fun c => no hlt fun hh => by have := seq hh; omega,fun c4 => ⟨fun c => no hlt fun hh => by have := seq hh; omega,fun c5 =>
    ⟨h.2.2.1,fun c => no hlt fun hh => c ?_,fun c6 => ⟨h,fun c => no hlt fun hh => ?_,fun c7 => ⟨fun c8 => ⟨⟨h,g0,hlt⟩,fun c => no hlt fun hh => c ?_,fun c9 => fin hlt ?_⟩,fun c8 => fin hlt ?_⟩⟩⟩⟩⟩⟩⟩⟩,fun hge => ?_⟩
  · have := (jobOk_iff.1 hh).2.2.1.1
    have h2 : findR (a.2.2.2.2,(at_ a.2.2.2.2 i).1.1) = ((i.toNat : Nat) : Int) := this
    omega
  · have h2 : 0 ≤ queueR (a,(at_ a.2.2.2.2 i).1.2.1) := (jobOk_iff.1 hh).2.2.1.2
    omega
  · rcases (jobOk_iff.1 hh).2.2.2 with h3 | h3
    · exact absurd (decide_eq_true h3) c8
    · exact h3
  · have c6 := Classical.not_not.1 c6
    refine jobOk_iff.2 ⟨Classical.not_not.1 c1,?_,⟨?_,?_⟩,.inr (Classical.not_not.1 c9)⟩
    · rw [← e]; exact ⟨by show last < (at_ a.2.2.2.2 i).2.1; omega,by show (at_ a.2.2.2.2 i).2.1 < a.2.1; omega,by show 0 ≤ (at_ a.2.2.2.2 i).2.2.2; omega,by show (at_ a.2.2.2.2 i).2.2.2 ≤ _; omega⟩
    · show findR (a.2.2.2.2,(at_ a.2.2.2.2 i).1.1) = ((i.toNat : Nat) : Int); omega
    · show 0 ≤ queueR (a,(at_ a.2.2.2.2 i).1.2.1); omega
  · have c6 := Classical.not_not.1 c6
    refine jobOk_iff.2 ⟨Classical.not_not.1 c1,?_,⟨?_,?_⟩,.inl (of_decide_eq_true (Classical.not_not.1 c8))⟩
    · rw [← e]; exact ⟨by show last < (at_ a.2.2.2.2 i).2.1; omega,by show (at_ a.2.2.2.2 i).2.1 < a.2.1; omega,by show 0 ≤ (at_ a.2.2.2.2 i).2.2.2; omega,by show (at_ a.2.2.2.2 i).2.2.2 ≤ _; omega⟩
    · show findR (a.2.2.2.2,(at_ a.2.2.2.2 i).1.1) = ((i.toNat : Nat) : Int); omega
    · show 0 ≤ queueR (a,(at_ a.2.2.2.2 i).1.2.1); omega
  · rw [Bool.eq_iff_iff,jobsB_iff,decide_eq_true_iff]
    exact ⟨fun e => ⟨fun q hq => g2 q (by omega),by omega⟩,fun e => by have := e.2; omega⟩
end Go.Abs
