/- Functions, and what the code asks of them: PQuota. -/
import Derived.KernelRfl
import Derived.Test.YtabnaedcnfkmiadBc41c1e0a
import Derived.Test.YtabnaedcnfkmiadB8cd9c866
import Derived.Test.YtabnaedcnfkmiadBa212655c
set_option linter.unusedVariables false
set_option linter.unusedSimpArgs false
/- What queues bear. -/
namespace Go.Abs
open Go

def addV (a b : TRes) : TRes := (a.1 + b.1,a.2.1 + b.2.1,a.2.2 + b.2.2)
def subV (a b : TRes) : TRes := (a.1 - b.1,a.2.1 - b.2.1,a.2.2 - b.2.2)
def zeroR : TRes := (0,0,0)
def bothR (a : TRes × TRes × Int) : TRes × Int :=
  if ¬ (rightB a.1 = true ∧ rightB a.2.1 = true) then (zeroR,1) else
  if rightB (if a.2.2 = 1 then addV a.1 a.2.1 else subV a.1 a.2.1) = true then (if a.2.2 = 1 then addV a.1 a.2.1 else subV a.1 a.2.1,0) else (zeroR,6)
def both_pre (a : TRes × TRes × Int) : Prop := a.2.2 = 1 ∨ a.2.2 = -1
def addR (a : TRes × TRes) : TRes × Int := bothR (a.1,a.2,1)
def subR (a : TRes × TRes) : TRes × Int := bothR (a.1,a.2,-1)
def fitsR (a : TRes × TRes) : Bool := decide (a.1.1 ≤ a.2.1 ∧ a.1.2.1 ≤ a.2.2.1 ∧ a.1.2.2 ≤ a.2.2.2)
def sumFrom : TRes → List TRes → TRes × Int
  | out,[] => (out,0)
  | out,a :: l => if (addR (out,a)).2 = 0 then sumFrom (addR (out,a)).1 l else (zeroR,(addR (out,a)).2)
def sumR (l : List TRes) : TRes × Int := sumFrom zeroR l

def useL (jobs : List TJob) (q : ByteArray) : List TRes := (jobs.filter fun j => decide (j.1.2.1 = q)).map fun j => j.1.2.2.2.1
def L20 {α : Type} (l : List α) : Prop := l.length ≤ 1048576
def used_pre (a : List TJob × ByteArray) : Prop := L20 a.1
def usedR (a : List TJob × ByteArray) : TRes × Int := sumR (useL a.1 a.2)
def namedR (a : TJob × ByteArray) : Bool := decide (a.1.1.1 = a.2)
def find_pre (a : List TJob × ByteArray) : Prop := L20 a.1
def findR (a : List TJob × ByteArray) : Int := match a.1.findIdx? fun j => namedR (j,a.2) with
  | some i => i
  | none => -1
def waitsR (j : TJob) : Bool := decide (j.2.2.1 = ByteArray.empty)
end Go.Abs

/- What queues bear: plain facts. -/
namespace Go.Abs
open Go

theorem drop_at {α : Type} [Inhabited α] {l : List α} {i : Int} (h0 : 0 ≤ i) (h : i < (l.length : Int)) : l.drop i.toNat = at_ l i :: l.drop (i + 1).toNat := by
  have hi : i.toNat < l.length := by omega
  rw [List.drop_eq_getElem_cons hi,show (i + 1).toNat = i.toNat + 1 from by omega]
  unfold at_
  rw [List.getD_eq_getElem?_getD,List.getElem?_eq_getElem hi]
  rfl

theorem useL_yes {j : TJob} {q : ByteArray} (h : j.1.2.1 = q) (l : List TJob) : useL (j :: l) q = j.1.2.2.2.1 :: useL l q := by
  unfold useL
  rw [List.filter_cons_of_pos (by simpa using h),List.map_cons]
theorem useL_no {j : TJob} {q : ByteArray} (h : ¬ j.1.2.1 = q) (l : List TJob) : useL (j :: l) q = useL l q := by
  unfold useL
  rw [List.filter_cons_of_neg (by simpa using h)]

theorem fitsR_iff {a b : TRes} : fitsR (a,b) = true ↔ a.1 ≤ b.1 ∧ a.2.1 ≤ b.2.1 ∧ a.2.2 ≤ b.2.2 := by
  unfold fitsR
  simp only [decide_eq_true_eq]

theorem findIdx_none {α : Type} [Inhabited α] {l : List α} {p : α → Bool} (h : ∀ i,i < l.length → p (l.getD i default) = false) : l.findIdx? p = none := by
  rw [List.findIdx?_eq_none_iff]
  intro x hx
  obtain ⟨i,hi,rfl⟩ := List.mem_iff_getElem.1 hx
  have := h i hi
  rwa [List.getD_eq_getElem?_getD,List.getElem?_eq_getElem hi] at this

theorem findIdx_some {α : Type} [Inhabited α] {l : List α} {p : α → Bool} {k : Nat} (hk : k < l.length) (hp : p (l.getD k default) = true) (h : ∀ i,i < k → p (l.getD i default) = false) : l.findIdx? p = some k := by
  have e : ∀ i (hi : i < l.length),l.getD i default = l[i] := fun i hi => by rw [List.getD_eq_getElem?_getD,List.getElem?_eq_getElem hi]; rfl
  rw [List.findIdx?_eq_some_iff_getElem]
  refine ⟨hk,by rw [← e k hk]; exact hp,fun j hj => ?_⟩
  have := h j hj
  rw [e j (by omega)] at this
  rw [this]
  decide

end Go.Abs

-- interregnum/res.both
namespace Go.Abs
open Go
def f69.args (a : T_ar3_i64 × T_ar3_i64 × Int) : List D := [.agg [.int .i64 a.1.1,.int .i64 a.1.2.1,.int .i64 a.1.2.2],.agg [.int .i64 a.2.1.1,.int .i64 a.2.1.2.1,.int .i64 a.2.1.2.2],.int .i64 a.2.2]
def f69.blks (a : T_ar3_i64 × T_ar3_i64 × Int) : List (List D) := []
def f69.res (a : T_ar3_i64 × T_ar3_i64 × Int) : List D := [.agg [.int .i64 (((bothR a).1).1),.int .i64 (((bothR a).1).2.1),.int .i64 (((bothR a).1).2.2)],.int .i64 ((bothR a).2)]
def f69.blks' (a : T_ar3_i64 × T_ar3_i64 × Int) : List (List D) := []
def f69.C : Contract := FnC f69.args f69.blks (fun a => both_pre a) f69.res f69.blks'
end Go.Abs

/- interregnum/res.both -/
namespace Go.Abs
open Go
set_option linter.unusedVariables false
def f69.kills (a : T_ar3_i64 × T_ar3_i64 × Int) : List Hint := [.unroll 4 [0,1,4,5,7,8,9,10,11,12,13,14,15,16,17,18,21,22,23,24,25,26,27,28,29,30,31,32,33,34,35,36,37] [0,2] []]
def f69.cuts (a : T_ar3_i64 × T_ar3_i64 × Int) : List (Nat × Σ β : Type,β→Tm) := []
def f69.af (a : T_ar3_i64 × T_ar3_i64 × Int) : AF := AF.mk (.seq (.region [oT 3 0 .box [0],
 oT 4 1 .box [1],
 oT 6 2 (.alloc [.int .i64 (0),.int .i64 (0),.int .i64 (0)]) [],
 ⟨(some 7),6,.move,[.c (.int .i64 (0))],none⟩])
 (.seq (.seq (.region [oT 10 7 (.load true 3) [3],
 oT 11 8 (.call false 49) [10],
 oT 12 12 (.un .not) [11],
 oT 13 13 .move [12],
 oG 14 14 (.load true 3) [4] 13 false,
 oG 15 15 (.call false 49) [14] 13 false,
 oG 16 19 (.un .not) [15] 13 false,
 ⟨(some 17),20,.pick,[.t 13,.c (.bool true),.t 16],none⟩])
 (.cond (.t 17) (.seq (.region [oT 18 21 (.build [.int .i64 (0),.int .i64 (0),.int .i64 (0)] []) [],
 ⟨none,22,(.store 3),[.t 6,.t 18],none⟩,
 ⟨(some 7),23,.move,[.c (.int .i64 (1))],none⟩])
 (.ret)) (.skip)))
 (.seq (.seq (.region [oT 19 24 (.load true 3) [4],
 ⟨(some 20),25,.move,[.c (.int .i64 (0))],none⟩])
 (.block 0 (.loop 4 [0,1,4,5,7,8,9,10,11,12,13,14,15,16,17,18,21,22,23,24,25,26,27,28,29,30,31,32,33,34,35,36,37] [0,2] [] 26 42 (.seq (.region [⟨(some 21),26,(.bin .lss),[.t 20,.c (.int .i64 (3))],none⟩])
 (.seq (.cond (.t 21) (.skip) (.exit 0))
 (.seq (.block 1 (.seq (.region [oT 22 27 .move [20],
 oT 23 28 (.indexArr false 1 3) [19,20],
 oT 8 29 .move [22],
 oT 9 30 .move [23]])
 (.region [oT 24 31 .move [8],
 oT 25 32 (.indexAddr 1 (some 3)) [3,24],
 oT 26 33 (.load false 1) [25],
 oT 27 34 .move [2],
 oT 28 35 .move [9],
 oT 29 36 (.bin .mul) [27,28],
 oT 30 37 (.bin .add) [26,29],
 oT 31 38 (.indexAddr 1 (some 3)) [3,24],
 ⟨none,39,(.store 1),[.t 31,.t 30],none⟩])))
 (.region [⟨(some 32),40,(.bin .add),[.t 20,.c (.int .i64 (1))],none⟩,
 oT 20 41 .move [32]])))))))
 (.seq (.seq (.region [oT 33 42 (.load true 3) [3],
 oT 34 43 (.call false 49) [33],
 oT 35 47 (.un .not) [34]])
 (.cond (.t 35) (.seq (.region [oT 36 48 (.build [.int .i64 (0),.int .i64 (0),.int .i64 (0)] []) [],
 ⟨none,49,(.store 3),[.t 6,.t 36],none⟩,
 ⟨(some 7),50,.move,[.c (.int .i64 (6))],none⟩])
 (.ret)) (.skip)))
 (.seq (.region [oT 37 51 (.load true 3) [3],
 ⟨none,52,(.store 3),[.t 6,.t 37],none⟩,
 ⟨(some 7),53,.move,[.c (.int .i64 (0))],none⟩])
 (.ret))))))
 [.cell 6 true 3,.tmp 7] 0 35
def f69.env : Env := [(49,f49.C)]
def f69.tree (a : T_ar3_i64 × T_ar3_i64 × Int) : Prop := ∃ c1 : T_ar3_i64,(a.1.1 = c1.1)∧(a.1.2.1 = c1.2.1)∧(a.1.2.2 = c1.2.2)∧True∧Br (!(rightB c1)) (((0 : Int) = (((bothR a).1).1))∧((0 : Int) = (((bothR a).1).2.1))∧((0 : Int) = (((bothR a).1).2.2))∧((1 : Int) = ((bothR a).2))∧True) (∃ c5 : T_ar3_i64,(a.2.1.1 = c5.1)∧(a.2.1.2.1 = c5.2.1)∧(a.2.1.2.2 = c5.2.2)∧True∧Br (!(rightB c5)) (((0 : Int) = (((bothR a).1).1))∧((0 : Int) = (((bothR a).1).2.1))∧((0 : Int) = (((bothR a).1).2.2))∧((1 : Int) = ((bothR a).2))∧True) (Let (IntKind.i64.wrap (a.2.2 * a.2.1.1)) (fun v9 : Int => Let (IntKind.i64.wrap (a.1.1 + v9)) (fun v10 : Int => Let (IntKind.i64.wrap (a.2.2 * a.2.1.2.1)) (fun v11 : Int => Let (IntKind.i64.wrap (a.1.2.1 + v11)) (fun v12 : Int => Let (IntKind.i64.wrap (a.2.2 * a.2.1.2.2)) (fun v13 : Int => Let (IntKind.i64.wrap (a.1.2.2 + v13)) (fun v14 : Int => ∃ c15 : T_ar3_i64,(v10 = c15.1)∧(v12 = c15.2.1)∧(v14 = c15.2.2)∧True∧Br (!(rightB c15)) (((0 : Int) = (((bothR a).1).1))∧((0 : Int) = (((bothR a).1).2.1))∧((0 : Int) = (((bothR a).1).2.2))∧((6 : Int) = ((bothR a).2))∧True) ((v10 = (((bothR a).1).1))∧(v12 = (((bothR a).1).2.1))∧(v14 = (((bothR a).1).2.2))∧((0 : Int) = ((bothR a).2))∧True)))))))))
def f69.vc (a : T_ar3_i64 × T_ar3_i64 × Int) : Prop := ((¬ ((rightB (a.1)) = true)→((((0 : Int),(0 : Int),(0 : Int)),(1 : Int)) = bothR a))∧(¬ (¬ ((rightB (a.1)) = true))→((¬ ((rightB (a.2.1)) = true)→((((0 : Int),(0 : Int),(0 : Int)),(1 : Int)) = bothR a))∧(¬ (¬ ((rightB (a.2.1)) = true))→(-9223372036854775808≤(a.2.2 * a.2.1.1)∧(a.2.2 * a.2.1.1)≤9223372036854775807∧(-9223372036854775808≤(a.1.1 + (a.2.2 * a.2.1.1))∧(a.1.1 + (a.2.2 * a.2.1.1))≤9223372036854775807∧(-9223372036854775808≤(a.2.2 * a.2.1.2.1)∧(a.2.2 * a.2.1.2.1)≤9223372036854775807∧(-9223372036854775808≤(a.1.2.1 + (a.2.2 * a.2.1.2.1))∧(a.1.2.1 + (a.2.2 * a.2.1.2.1))≤9223372036854775807∧(-9223372036854775808≤(a.2.2 * a.2.1.2.2)∧(a.2.2 * a.2.1.2.2)≤9223372036854775807∧(-9223372036854775808≤(a.1.2.2 + (a.2.2 * a.2.1.2.2))∧(a.1.2.2 + (a.2.2 * a.2.1.2.2))≤9223372036854775807∧((¬ ((rightB ((a.1.1 + (a.2.2 * a.2.1.1)),(a.1.2.1 + (a.2.2 * a.2.1.2.1)),(a.1.2.2 + (a.2.2 * a.2.1.2.2)))) = true)→((((0 : Int),(0 : Int),(0 : Int)),(6 : Int)) = bothR a))∧(¬ (¬ ((rightB ((a.1.1 + (a.2.2 * a.2.1.1)),(a.1.2.1 + (a.2.2 * a.2.1.2.1)),(a.1.2.2 + (a.2.2 * a.2.1.2.2)))) = true))→((((a.1.1 + (a.2.2 * a.2.1.1)),(a.1.2.1 + (a.2.2 * a.2.1.2.1)),(a.1.2.2 + (a.2.2 * a.2.1.2.2))),(0 : Int)) = bothR a)))))))))))))
set_option maxRecDepth 100000 in
set_option maxHeartbeats 2000000 in
theorem f69.of (a : T_ar3_i64 × T_ar3_i64 × Int) (h : f69.vc a) : f69.tree a := ⟨a.1,⟨rfl,⟨rfl,⟨rfl,⟨trivial,br h (Cnd.not Cnd.b) (fun h2 k44 => ⟨(congrArg (fun x : T_ar3_i64 × Int => x.1.1) k44 :),⟨(congrArg (fun x : T_ar3_i64 × Int => x.1.2.1) k44 :),⟨(congrArg (fun x : T_ar3_i64 × Int => x.1.2.2) k44 :),⟨(congrArg (fun x : T_ar3_i64 × Int => x.2) k44 :),trivial⟩⟩⟩⟩) (fun h3 k45 => ⟨a.2.1,⟨rfl,⟨rfl,⟨rfl,⟨trivial,br k45 (Cnd.not Cnd.b) (fun h6 k41 => ⟨(congrArg (fun x : T_ar3_i64 × Int => x.1.1) k41 :),⟨(congrArg (fun x : T_ar3_i64 × Int => x.1.2.1) k41 :),⟨(congrArg (fun x : T_ar3_i64 × Int => x.1.2.2) k41 :),⟨(congrArg (fun x : T_ar3_i64 × Int => x.2) k41 :),trivial⟩⟩⟩⟩) (fun h7 k42 => wrapK.i64 k42 (fun h38 h39 k40 => wrapK.i64 k40 (fun h35 h36 k37 => wrapK.i64 k37 (fun h32 h33 k34 => wrapK.i64 k34 (fun h29 h30 k31 => wrapK.i64 k31 (fun h26 h27 k28 => wrapK.i64 k28 (fun h23 h24 k25 => ⟨((a.1.1 + (a.2.2 * a.2.1.1)),(a.1.2.1 + (a.2.2 * a.2.1.2.1)),(a.1.2.2 + (a.2.2 * a.2.1.2.2))),⟨rfl,⟨rfl,⟨rfl,⟨trivial,br k25 (Cnd.not Cnd.b) (fun h16 k20 => ⟨(congrArg (fun x : T_ar3_i64 × Int => x.1.1) k20 :),⟨(congrArg (fun x : T_ar3_i64 × Int => x.1.2.1) k20 :),⟨(congrArg (fun x : T_ar3_i64 × Int => x.1.2.2) k20 :),⟨(congrArg (fun x : T_ar3_i64 × Int => x.2) k20 :),trivial⟩⟩⟩⟩) (fun h17 k21 => ⟨(congrArg (fun x : T_ar3_i64 × Int => x.1.1) k21 :),⟨(congrArg (fun x : T_ar3_i64 × Int => x.1.2.1) k21 :),⟨(congrArg (fun x : T_ar3_i64 × Int => x.1.2.2) k21 :),⟨(congrArg (fun x : T_ar3_i64 × Int => x.2) k21 :),trivial⟩⟩⟩⟩)⟩⟩⟩⟩⟩)))))))⟩⟩⟩⟩⟩)⟩⟩⟩⟩⟩
theorem f69.eq (a : T_ar3_i64 × T_ar3_i64 × Int) : (f69.af a).gives f69.env (f69.args a) (f69.blks a) (f69.res a) (f69.blks' a) = f69.tree a := by kernel_rfl
end Go.Abs

-- interregnum/res.Add
namespace Go.Abs
open Go
def f54.args (a : T_ar3_i64 × T_ar3_i64) : List D := [.agg [.int .i64 a.1.1,.int .i64 a.1.2.1,.int .i64 a.1.2.2],.agg [.int .i64 a.2.1,.int .i64 a.2.2.1,.int .i64 a.2.2.2]]
def f54.blks (a : T_ar3_i64 × T_ar3_i64) : List (List D) := []
def f54.res (a : T_ar3_i64 × T_ar3_i64) : List D := [.agg [.int .i64 (((addR a).1).1),.int .i64 (((addR a).1).2.1),.int .i64 (((addR a).1).2.2)],.int .i64 ((addR a).2)]
def f54.blks' (a : T_ar3_i64 × T_ar3_i64) : List (List D) := []
def f54.C : Contract := FnC f54.args f54.blks (fun _ => True) f54.res f54.blks'
end Go.Abs

/- interregnum/res.Add -/
namespace Go.Abs
open Go
set_option linter.unusedVariables false
def f54.kills (a : T_ar3_i64 × T_ar3_i64) : List Hint := []
def f54.cuts (a : T_ar3_i64 × T_ar3_i64) : List (Nat × Σ β : Type,β→Tm) := []
def f54.af (a : T_ar3_i64 × T_ar3_i64) : AF := AF.mk (.seq (.region [oT 2 0 .box [0],
 oT 3 1 .box [1],
 oT 4 2 (.alloc [.int .i64 (0),.int .i64 (0),.int .i64 (0)]) [],
 ⟨(some 5),6,.move,[.c (.int .i64 (0))],none⟩])
 (.seq (.region [oT 6 7 (.load true 3) [2],
 oT 7 8 (.load true 3) [3],
 ⟨(some 8),9,(.call false 69),[.t 6,.t 7,.c (.int .i64 (1))],none⟩,
 oT 9 13 (.extract 0) [8],
 oT 10 14 (.extract 1) [8],
 ⟨none,15,(.store 3),[.t 4,.t 9],none⟩,
 oT 5 16 .move [10]])
 (.ret)))
 [.cell 4 true 3,.tmp 5] 0 9
def f54.env : Env := [(69,f69.C)]
def f54.tree (a : T_ar3_i64 × T_ar3_i64) : Prop := ∃ c1 : T_ar3_i64 × T_ar3_i64 × Int,(a.1.1 = c1.1.1)∧(a.1.2.1 = c1.1.2.1)∧(a.1.2.2 = c1.1.2.2)∧(a.2.1 = c1.2.1.1)∧(a.2.2.1 = c1.2.1.2.1)∧(a.2.2.2 = c1.2.1.2.2)∧((1 : Int) = c1.2.2)∧(both_pre c1)∧((((bothR c1).1).1) = (((addR a).1).1))∧((((bothR c1).1).2.1) = (((addR a).1).2.1))∧((((bothR c1).1).2.2) = (((addR a).1).2.2))∧(((bothR c1).2) = ((addR a).2))∧True
def f54.vc (a : T_ar3_i64 × T_ar3_i64) : Prop := (both_pre (a.1,a.2,(1 : Int))∧((((bothR (a.1,a.2,(1 : Int))).1),(bothR (a.1,a.2,(1 : Int))).2) = addR a))
set_option maxRecDepth 100000 in
set_option maxHeartbeats 2000000 in
theorem f54.of (a : T_ar3_i64 × T_ar3_i64) (h : f54.vc a) : f54.tree a := ⟨(a.1,a.2,(1 : Int)),⟨rfl,⟨rfl,⟨rfl,⟨rfl,⟨rfl,⟨rfl,⟨rfl,⟨h.1,⟨(congrArg (fun x : T_ar3_i64 × Int => x.1.1) h.2 :),⟨(congrArg (fun x : T_ar3_i64 × Int => x.1.2.1) h.2 :),⟨(congrArg (fun x : T_ar3_i64 × Int => x.1.2.2) h.2 :),⟨(congrArg (fun x : T_ar3_i64 × Int => x.2) h.2 :),trivial⟩⟩⟩⟩⟩⟩⟩⟩⟩⟩⟩⟩⟩
theorem f54.eq (a : T_ar3_i64 × T_ar3_i64) : (f54.af a).gives f54.env (f54.args a) (f54.blks a) (f54.res a) (f54.blks' a) = f54.tree a := by kernel_rfl
end Go.Abs

-- interregnum/interregnumref03.Add
namespace Go.Abs
open Go
def f68.args (a : T_ar3_i64 × T_ar3_i64) : List D := [.agg [.int .i64 a.1.1,.int .i64 a.1.2.1,.int .i64 a.1.2.2],.agg [.int .i64 a.2.1,.int .i64 a.2.2.1,.int .i64 a.2.2.2]]
def f68.blks (a : T_ar3_i64 × T_ar3_i64) : List (List D) := []
def f68.res (a : T_ar3_i64 × T_ar3_i64) : List D := [.agg [.int .i64 (((addR a).1).1),.int .i64 (((addR a).1).2.1),.int .i64 (((addR a).1).2.2)],.int .i64 ((addR a).2)]
def f68.blks' (a : T_ar3_i64 × T_ar3_i64) : List (List D) := []
def f68.C : Contract := FnC f68.args f68.blks (fun _ => True) f68.res f68.blks'
end Go.Abs

/- interregnum/interregnumref03.Add -/
namespace Go.Abs
open Go
set_option linter.unusedVariables false
def f68.kills (a : T_ar3_i64 × T_ar3_i64) : List Hint := [.unroll 4 [0,1,5,7,8,9,10,11,12,13,14,15,16,17,18,19,20,21,22,23,24,25,26,27,28,29,30,31,32,33] [0,1,2] []]
def f68.cuts (a : T_ar3_i64 × T_ar3_i64) : List (Nat × Σ β : Type,β→Tm) := []
def f68.af (a : T_ar3_i64 × T_ar3_i64) : AF := AF.mk (.seq (.region [oT 2 0 .box [0],
 oT 3 1 .box [1],
 oT 4 2 (.alloc [.int .i64 (0),.int .i64 (0),.int .i64 (0)]) [],
 ⟨(some 5),6,.move,[.c (.int .i64 (0))],none⟩])
 (.seq (.seq (.region [oT 7 7 (.load true 3) [2],
 oT 8 8 (.call false 55) [7],
 oT 9 12 (.un .not) [8],
 oT 10 13 .move [9],
 oG 11 14 (.load true 3) [3] 10 false,
 oG 12 15 (.call false 55) [11] 10 false,
 oG 13 19 (.un .not) [12] 10 false,
 ⟨(some 14),20,.pick,[.t 10,.c (.bool true),.t 13],none⟩])
 (.cond (.t 14) (.seq (.region [oT 15 21 (.build [.int .i64 (0),.int .i64 (0),.int .i64 (0)] []) [],
 ⟨none,22,(.store 3),[.t 4,.t 15],none⟩,
 ⟨(some 5),23,.move,[.c (.int .i64 (1))],none⟩])
 (.ret)) (.skip)))
 (.seq (.seq (.region [⟨(some 6),24,.move,[.c (.int .i64 (0))],none⟩])
 (.block 0 (.loop 4 [0,1,5,7,8,9,10,11,12,13,14,15,16,17,18,19,20,21,22,23,24,25,26,27,28,29,30,31,32,33] [0,1,2] [] 25 40 (.seq (.seq (.region [oT 16 25 .move [6],
 ⟨(some 17),26,(.bin .lss),[.t 16,.c (.int .i64 (3))],none⟩])
 (.cond (.t 17) (.skip) (.exit 0)))
 (.seq (.block 1 (.region [oT 20 27 .move [6],
 oT 21 28 .move [6],
 oT 22 29 (.indexAddr 1 (some 3)) [2,21],
 oT 23 30 (.load false 1) [22],
 oT 24 31 .move [6],
 oT 25 32 (.indexAddr 1 (some 3)) [3,24],
 oT 26 33 (.load false 1) [25],
 oT 27 34 (.bin .add) [23,26],
 oT 28 35 (.indexAddr 1 (some 3)) [2,20],
 ⟨none,36,(.store 1),[.t 28,.t 27],none⟩]))
 (.region [oT 18 37 .move [6],
 ⟨(some 19),38,(.bin .add),[.t 18,.c (.int .i64 (1))],none⟩,
 oT 6 39 .move [19]]))))))
 (.seq (.seq (.region [oT 29 40 (.load true 3) [2],
 oT 30 41 (.call false 55) [29],
 oT 31 45 (.un .not) [30]])
 (.cond (.t 31) (.seq (.region [oT 32 46 (.build [.int .i64 (0),.int .i64 (0),.int .i64 (0)] []) [],
 ⟨none,47,(.store 3),[.t 4,.t 32],none⟩,
 ⟨(some 5),48,.move,[.c (.int .i64 (6))],none⟩])
 (.ret)) (.skip)))
 (.seq (.region [oT 33 49 (.load true 3) [2],
 ⟨none,50,(.store 3),[.t 4,.t 33],none⟩,
 ⟨(some 5),51,.move,[.c (.int .i64 (0))],none⟩])
 (.ret))))))
 [.cell 4 true 3,.tmp 5] 0 32
def f68.env : Env := [(55,f55.C)]
def f68.tree (a : T_ar3_i64 × T_ar3_i64) : Prop := ∃ c1 : T_ar3_i64,(a.1.1 = c1.1)∧(a.1.2.1 = c1.2.1)∧(a.1.2.2 = c1.2.2)∧True∧Br (!(rightB c1)) (((0 : Int) = (((addR a).1).1))∧((0 : Int) = (((addR a).1).2.1))∧((0 : Int) = (((addR a).1).2.2))∧((1 : Int) = ((addR a).2))∧True) (∃ c5 : T_ar3_i64,(a.2.1 = c5.1)∧(a.2.2.1 = c5.2.1)∧(a.2.2.2 = c5.2.2)∧True∧Br (!(rightB c5)) (((0 : Int) = (((addR a).1).1))∧((0 : Int) = (((addR a).1).2.1))∧((0 : Int) = (((addR a).1).2.2))∧((1 : Int) = ((addR a).2))∧True) (Let (IntKind.i64.wrap (a.1.1 + a.2.1)) (fun v9 : Int => Let (IntKind.i64.wrap (a.1.2.1 + a.2.2.1)) (fun v10 : Int => Let (IntKind.i64.wrap (a.1.2.2 + a.2.2.2)) (fun v11 : Int => ∃ c12 : T_ar3_i64,(v9 = c12.1)∧(v10 = c12.2.1)∧(v11 = c12.2.2)∧True∧Br (!(rightB c12)) (((0 : Int) = (((addR a).1).1))∧((0 : Int) = (((addR a).1).2.1))∧((0 : Int) = (((addR a).1).2.2))∧((6 : Int) = ((addR a).2))∧True) ((v9 = (((addR a).1).1))∧(v10 = (((addR a).1).2.1))∧(v11 = (((addR a).1).2.2))∧((0 : Int) = ((addR a).2))∧True))))))
def f68.vc (a : T_ar3_i64 × T_ar3_i64) : Prop := ((¬ ((rightB (a.1)) = true)→((((0 : Int),(0 : Int),(0 : Int)),(1 : Int)) = addR a))∧(¬ (¬ ((rightB (a.1)) = true))→((¬ ((rightB (a.2)) = true)→((((0 : Int),(0 : Int),(0 : Int)),(1 : Int)) = addR a))∧(¬ (¬ ((rightB (a.2)) = true))→(-9223372036854775808≤(a.1.1 + a.2.1)∧(a.1.1 + a.2.1)≤9223372036854775807∧(-9223372036854775808≤(a.1.2.1 + a.2.2.1)∧(a.1.2.1 + a.2.2.1)≤9223372036854775807∧(-9223372036854775808≤(a.1.2.2 + a.2.2.2)∧(a.1.2.2 + a.2.2.2)≤9223372036854775807∧((¬ ((rightB ((a.1.1 + a.2.1),(a.1.2.1 + a.2.2.1),(a.1.2.2 + a.2.2.2))) = true)→((((0 : Int),(0 : Int),(0 : Int)),(6 : Int)) = addR a))∧(¬ (¬ ((rightB ((a.1.1 + a.2.1),(a.1.2.1 + a.2.2.1),(a.1.2.2 + a.2.2.2))) = true))→((((a.1.1 + a.2.1),(a.1.2.1 + a.2.2.1),(a.1.2.2 + a.2.2.2)),(0 : Int)) = addR a))))))))))
set_option maxRecDepth 100000 in
set_option maxHeartbeats 2000000 in
theorem f68.of (a : T_ar3_i64 × T_ar3_i64) (h : f68.vc a) : f68.tree a := ⟨a.1,⟨rfl,⟨rfl,⟨rfl,⟨trivial,br h (Cnd.not Cnd.b) (fun h2 k32 => ⟨(congrArg (fun x : T_ar3_i64 × Int => x.1.1) k32 :),⟨(congrArg (fun x : T_ar3_i64 × Int => x.1.2.1) k32 :),⟨(congrArg (fun x : T_ar3_i64 × Int => x.1.2.2) k32 :),⟨(congrArg (fun x : T_ar3_i64 × Int => x.2) k32 :),trivial⟩⟩⟩⟩) (fun h3 k33 => ⟨a.2,⟨rfl,⟨rfl,⟨rfl,⟨trivial,br k33 (Cnd.not Cnd.b) (fun h6 k29 => ⟨(congrArg (fun x : T_ar3_i64 × Int => x.1.1) k29 :),⟨(congrArg (fun x : T_ar3_i64 × Int => x.1.2.1) k29 :),⟨(congrArg (fun x : T_ar3_i64 × Int => x.1.2.2) k29 :),⟨(congrArg (fun x : T_ar3_i64 × Int => x.2) k29 :),trivial⟩⟩⟩⟩) (fun h7 k30 => wrapK.i64 k30 (fun h26 h27 k28 => wrapK.i64 k28 (fun h23 h24 k25 => wrapK.i64 k25 (fun h20 h21 k22 => ⟨((a.1.1 + a.2.1),(a.1.2.1 + a.2.2.1),(a.1.2.2 + a.2.2.2)),⟨rfl,⟨rfl,⟨rfl,⟨trivial,br k22 (Cnd.not Cnd.b) (fun h13 k17 => ⟨(congrArg (fun x : T_ar3_i64 × Int => x.1.1) k17 :),⟨(congrArg (fun x : T_ar3_i64 × Int => x.1.2.1) k17 :),⟨(congrArg (fun x : T_ar3_i64 × Int => x.1.2.2) k17 :),⟨(congrArg (fun x : T_ar3_i64 × Int => x.2) k17 :),trivial⟩⟩⟩⟩) (fun h14 k18 => ⟨(congrArg (fun x : T_ar3_i64 × Int => x.1.1) k18 :),⟨(congrArg (fun x : T_ar3_i64 × Int => x.1.2.1) k18 :),⟨(congrArg (fun x : T_ar3_i64 × Int => x.1.2.2) k18 :),⟨(congrArg (fun x : T_ar3_i64 × Int => x.2) k18 :),trivial⟩⟩⟩⟩)⟩⟩⟩⟩⟩))))⟩⟩⟩⟩⟩)⟩⟩⟩⟩⟩
theorem f68.eq (a : T_ar3_i64 × T_ar3_i64) : (f68.af a).gives f68.env (f68.args a) (f68.blks a) (f68.res a) (f68.blks' a) = f68.tree a := by kernel_rfl
end Go.Abs

-- interregnum/res.Fits
namespace Go.Abs
open Go
def f34.args (a : T_ar3_i64 × T_ar3_i64) : List D := [.agg [.int .i64 a.1.1,.int .i64 a.1.2.1,.int .i64 a.1.2.2],.agg [.int .i64 a.2.1,.int .i64 a.2.2.1,.int .i64 a.2.2.2]]
def f34.blks (a : T_ar3_i64 × T_ar3_i64) : List (List D) := []
def f34.res (a : T_ar3_i64 × T_ar3_i64) : List D := [.bool (fitsR a)]
def f34.blks' (a : T_ar3_i64 × T_ar3_i64) : List (List D) := []
def f34.C : Contract := FnC f34.args f34.blks (fun _ => True) f34.res f34.blks'
end Go.Abs

/- interregnum/res.Fits -/
namespace Go.Abs
open Go
set_option linter.unusedVariables false
def f34.kills (a : T_ar3_i64 × T_ar3_i64) : List Hint := [.unroll 4 [0,1,2,4,5,6,9,10,11,12,13,14,15,16,17] [1] []]
def f34.cuts (a : T_ar3_i64 × T_ar3_i64) : List (Nat × Σ β : Type,β→Tm) := []
def f34.af (a : T_ar3_i64 × T_ar3_i64) : AF := AF.mk (.seq (.region [oT 2 0 .box [0],
 oT 3 1 .box [1],
 ⟨(some 4),2,.move,[.c (.bool false)],none⟩])
 (.seq (.seq (.region [oT 7 3 (.load true 3) [2],
 ⟨(some 8),4,.move,[.c (.int .i64 (0))],none⟩])
 (.block 0 (.loop 4 [0,1,2,4,5,6,9,10,11,12,13,14,15,16,17] [1] [] 5 18 (.seq (.region [⟨(some 9),5,(.bin .lss),[.t 8,.c (.int .i64 (3))],none⟩])
 (.seq (.cond (.t 9) (.skip) (.exit 0))
 (.seq (.block 1 (.seq (.region [oT 10 6 .move [8],
 oT 11 7 (.indexArr false 1 3) [7,8],
 oT 5 8 .move [10],
 oT 6 9 .move [11]])
 (.seq (.region [oT 12 10 .move [6],
 oT 13 11 .move [5],
 oT 14 12 (.indexAddr 1 (some 3)) [3,13],
 oT 15 13 (.load false 1) [14],
 oT 16 14 (.bin .gtr) [12,15]])
 (.cond (.t 16) (.seq (.region [⟨(some 4),15,.move,[.c (.bool false)],none⟩])
 (.ret)) (.skip)))))
 (.region [⟨(some 17),16,(.bin .add),[.t 8,.c (.int .i64 (1))],none⟩,
 oT 8 17 .move [17]])))))))
 (.seq (.region [⟨(some 4),18,.move,[.c (.bool true)],none⟩])
 (.ret))))
 [.tmp 4] 0 16
def f34.env : Env := []
def f34.tree (a : T_ar3_i64 × T_ar3_i64) : Prop := Br (decide (a.2.1 < a.1.1)) ((false = (fitsR a))∧True) (Br (decide (a.2.2.1 < a.1.2.1)) ((false = (fitsR a))∧True) (Br (decide (a.2.2.2 < a.1.2.2)) ((false = (fitsR a))∧True) ((true = (fitsR a))∧True)))
def f34.vc (a : T_ar3_i64 × T_ar3_i64) : Prop := ((a.2.1 < a.1.1→(false = fitsR a))∧(¬ (a.2.1 < a.1.1)→((a.2.2.1 < a.1.2.1→(false = fitsR a))∧(¬ (a.2.2.1 < a.1.2.1)→((a.2.2.2 < a.1.2.2→(false = fitsR a))∧(¬ (a.2.2.2 < a.1.2.2)→(true = fitsR a)))))))
set_option maxRecDepth 100000 in
set_option maxHeartbeats 2000000 in
theorem f34.of (a : T_ar3_i64 × T_ar3_i64) (h : f34.vc a) : f34.tree a := br h Cnd.dec (fun h1 k15 => ⟨k15,trivial⟩) (fun h2 k16 => br k16 Cnd.dec (fun h4 k13 => ⟨k13,trivial⟩) (fun h5 k14 => br k14 Cnd.dec (fun h7 k11 => ⟨k11,trivial⟩) (fun h8 k12 => ⟨k12,trivial⟩)))
theorem f34.eq (a : T_ar3_i64 × T_ar3_i64) : (f34.af a).gives f34.env (f34.args a) (f34.blks a) (f34.res a) (f34.blks' a) = f34.tree a := by kernel_rfl
end Go.Abs

-- interregnum/res.Sum
namespace Go.Abs
open Go
def f52.args (a : List (T_ar3_i64)) : List D := [.slice .ro 3 a.length (gl e_ar3_i64 a)]
def f52.blks (a : List (T_ar3_i64)) : List (List D) := []
def f52.res (a : List (T_ar3_i64)) : List D := [.agg [.int .i64 (((sumR a).1).1),.int .i64 (((sumR a).1).2.1),.int .i64 (((sumR a).1).2.2)],.int .i64 ((sumR a).2)]
def f52.blks' (a : List (T_ar3_i64)) : List (List D) := []
def f52.C : Contract := FnC f52.args f52.blks (fun a => L20 a) f52.res f52.blks'
end Go.Abs

/- interregnum/res.Sum -/
namespace Go.Abs
open Go
set_option linter.unusedVariables false
def f52.S0 (a : List (T_ar3_i64)) (x : Int × Int × Int × Int × Int × Int × Int) : Tm := ⟨[.dead,.dead,.ptr 0 0,.dead,.ptr 5 0,.dead,.dead,.dead,.dead,.slice .ro 3 a.length (gl e_ar3_i64 a),.int .i64 (a.length : Int),.int .i64 x.1,.dead,.dead,.dead,.dead,.dead,.dead,.dead,.dead,.dead,.dead,.dead,.dead,.dead,.dead,.dead,.dead],[(0,false,[.int .i64 x.2.1,.int .i64 x.2.2.1,.int .i64 x.2.2.2.1]),(5,false,[.int .i64 x.2.2.2.2.1,.int .i64 x.2.2.2.2.2.1,.int .i64 x.2.2.2.2.2.2])],[]⟩
def f52.kills (a : List (T_ar3_i64)) : List Hint := [.tell (Int × Int × Int × Int × Int × Int × Int) (f52.S0 a)]
def f52.cuts (a : List (T_ar3_i64)) : List (Nat × Σ β : Type,β→Tm) := []
def f52.af (a : List (T_ar3_i64)) : AF := AF.mk (.seq (.region [oT 2 0 (.alloc [.int .i64 (0),.int .i64 (0),.int .i64 (0)]) [],
 ⟨(some 3),4,.move,[.c (.int .i64 (0))],none⟩])
 (.seq (.region [oT 4 5 (.alloc [.int .i64 (0),.int .i64 (0),.int .i64 (0)]) []])
 (.seq (.seq (.region [oT 9 9 .move [0],
 oT 10 10 (.len false) [9],
 ⟨(some 11),11,.move,[.c (.int .i64 (0))],none⟩])
 (.block 0 (.loopT (Int × Int × Int × Int × Int × Int × Int) (f52.S0 a) 12 45 (.seq (.region [oT 12 12 (.bin .lss) [11,10]])
 (.seq (.cond (.t 12) (.skip) (.exit 0))
 (.seq (.block 1 (.seq (.region [oT 13 13 (.indexAddr 3 none) [9,11],
 oT 14 14 (.load true 3) [13],
 oT 6 15 (.alloc [.int .i64 (0),.int .i64 (0),.int .i64 (0)]) [],
 ⟨none,19,(.store 3),[.t 6,.t 14],none⟩])
 (.seq (.region [oT 16 20 (.load true 3) [4],
 oT 17 21 (.load true 3) [6],
 oT 18 22 (.call false 54) [16,17],
 oT 15 26 .move [18],
 oT 19 27 (.extract 0) [15],
 oT 20 28 (.extract 1) [15],
 oT 7 29 (.alloc [.int .i64 (0),.int .i64 (0),.int .i64 (0)]) [],
 ⟨none,33,(.store 3),[.t 7,.t 19],none⟩,
 oT 8 34 .move [20]])
 (.seq (.seq (.region [oT 21 35 .move [8],
 ⟨(some 22),36,(.bin .neq),[.t 21,.c (.int .i64 (0))],none⟩])
 (.cond (.t 22) (.seq (.region [oT 23 37 (.build [.int .i64 (0),.int .i64 (0),.int .i64 (0)] []) [],
 oT 24 38 .move [8],
 ⟨none,39,(.store 3),[.t 2,.t 23],none⟩,
 oT 3 40 .move [24]])
 (.ret)) (.skip)))
 (.region [oT 25 41 (.load true 3) [7],
 ⟨none,42,(.store 3),[.t 4,.t 25],none⟩])))))
 (.region [⟨(some 26),43,(.bin .add),[.t 11,.c (.int .i64 (1))],none⟩,
 oT 11 44 .move [26]])))))))
 (.seq (.region [oT 27 45 (.load true 3) [4],
 ⟨none,46,(.store 3),[.t 2,.t 27],none⟩,
 ⟨(some 3),47,.move,[.c (.int .i64 (0))],none⟩])
 (.ret)))))
 [.cell 2 true 3,.tmp 3] 0 27
def f52.env : Env := [(54,f54.C)]
def f52.tree (a : List (T_ar3_i64)) : Prop := ∃ (I2 : (Int × Int × Int × Int × Int × Int × Int)→Prop) (μ3 : (Int × Int × Int × Int × Int × Int × Int)→Nat),(∃ x1 : Int × Int × Int × Int × Int × Int × Int,SlS e_ar3_i64 a (((a.length : Int) = (a.length : Int))∧((0 : Int) = x1.1)∧((0 : Int) = x1.2.1)∧((0 : Int) = x1.2.2.1)∧((0 : Int) = x1.2.2.2.1)∧((0 : Int) = x1.2.2.2.2.1)∧((0 : Int) = x1.2.2.2.2.2.1)∧((0 : Int) = x1.2.2.2.2.2.2)∧I2 x1))∧∀ y4 : Int × Int × Int × Int × Int × Int × Int,I2 y4→(Br (decide (y4.1 < (a.length : Int))) (Br (decide ((0 : Int)≤y4.1) && decide (y4.1 < (a.length : Int))) (∃ c8 : T_ar3_i64 × T_ar3_i64,(y4.2.2.2.2.1 = c8.1.1)∧(y4.2.2.2.2.2.1 = c8.1.2.1)∧(y4.2.2.2.2.2.2 = c8.1.2.2)∧(((at_ a y4.1).1) = c8.2.1)∧(((at_ a y4.1).2.1) = c8.2.2.1)∧(((at_ a y4.1).2.2) = c8.2.2.2)∧True∧Br (((addR c8).2) != (0 : Int)) (((0 : Int) = (((sumR a).1).1))∧((0 : Int) = (((sumR a).1).2.1))∧((0 : Int) = (((sumR a).1).2.2))∧(((addR c8).2) = ((sumR a).2))∧True) (Let (IntKind.i64.wrap (y4.1 + (1 : Int))) (fun v12 : Int => ∃ x13 : Int × Int × Int × Int × Int × Int × Int,SlS e_ar3_i64 a (((a.length : Int) = (a.length : Int))∧(v12 = x13.1)∧(y4.2.1 = x13.2.1)∧(y4.2.2.1 = x13.2.2.1)∧(y4.2.2.2.1 = x13.2.2.2.1)∧((((addR c8).1).1) = x13.2.2.2.2.1)∧((((addR c8).1).2.1) = x13.2.2.2.2.2.1)∧((((addR c8).1).2.2) = x13.2.2.2.2.2.2)∧I2 x13∧μ3 x13 < μ3 y4)))) False) ((y4.2.2.2.2.1 = (((sumR a).1).1))∧(y4.2.2.2.2.2.1 = (((sumR a).1).2.1))∧(y4.2.2.2.2.2.2 = (((sumR a).1).2.2))∧((0 : Int) = ((sumR a).2))∧True))
def f52.vc (a : List (T_ar3_i64)) : Prop := (∃ (I2 : (Int × Int × Int × Int × Int × Int × Int)→Prop) (μ3 : (Int × Int × Int × Int × Int × Int × Int)→Nat),I2 ((0 : Int),(0 : Int),(0 : Int),(0 : Int),(0 : Int),(0 : Int),(0 : Int))∧∀ y4 : Int × Int × Int × Int × Int × Int × Int,I2 y4→((y4.1 < (a.length : Int)→((0 : Int)≤y4.1∧y4.1 < (a.length : Int)∧((¬ ((addR (y4.2.2.2.2,(at_ a y4.1))).2) = (0 : Int)→((((0 : Int),(0 : Int),(0 : Int)),(addR (y4.2.2.2.2,(at_ a y4.1))).2) = sumR a))∧(¬ (¬ ((addR (y4.2.2.2.2,(at_ a y4.1))).2) = (0 : Int))→(-9223372036854775808≤(y4.1 + (1 : Int))∧(y4.1 + (1 : Int))≤9223372036854775807∧(I2 ((y4.1 + (1 : Int)),y4.2.1,y4.2.2.1,y4.2.2.2.1,((addR (y4.2.2.2.2,(at_ a y4.1))).1).1,((addR (y4.2.2.2.2,(at_ a y4.1))).1).2.1,((addR (y4.2.2.2.2,(at_ a y4.1))).1).2.2)∧μ3 ((y4.1 + (1 : Int)),y4.2.1,y4.2.2.1,y4.2.2.2.1,((addR (y4.2.2.2.2,(at_ a y4.1))).1).1,((addR (y4.2.2.2.2,(at_ a y4.1))).1).2.1,((addR (y4.2.2.2.2,(at_ a y4.1))).1).2.2) < μ3 y4))))))∧(¬ (y4.1 < (a.length : Int))→((y4.2.2.2.2,(0 : Int)) = sumR a))))
set_option maxRecDepth 100000 in
set_option maxHeartbeats 2000000 in
theorem f52.of (a : List (T_ar3_i64)) (h : f52.vc a) : f52.tree a := Exists.elim h (fun I2 h25_ => Exists.elim h25_ (fun μ3 h25 => ⟨I2,μ3,⟨((0 : Int),(0 : Int),(0 : Int),(0 : Int),(0 : Int),(0 : Int),(0 : Int)),SlS.mk  (⟨rfl,⟨rfl,⟨rfl,⟨rfl,⟨rfl,⟨rfl,⟨rfl,⟨rfl,h25.1⟩⟩⟩⟩⟩⟩⟩⟩)⟩,fun y4 h27 => br (h25.2 y4 h27) Cnd.dec (fun h5 k23 => chk k23.2.2 Cnd.ix ⟨k23.1,k23.2.1⟩ (fun h7 k21 => ⟨(y4.2.2.2.2,(at_ a y4.1)),⟨rfl,⟨rfl,⟨rfl,⟨rfl,⟨rfl,⟨rfl,⟨trivial,br k21 Cnd.ne (fun h9 k18 => ⟨(congrArg (fun x : T_ar3_i64 × Int => x.1.1) k18 :),⟨(congrArg (fun x : T_ar3_i64 × Int => x.1.2.1) k18 :),⟨(congrArg (fun x : T_ar3_i64 × Int => x.1.2.2) k18 :),⟨(congrArg (fun x : T_ar3_i64 × Int => x.2) k18 :),trivial⟩⟩⟩⟩) (fun h10 k19 => wrapK.i64 k19 (fun h15 h16 k17 => ⟨((y4.1 + (1 : Int)),y4.2.1,y4.2.2.1,y4.2.2.2.1,((addR (y4.2.2.2.2,(at_ a y4.1))).1).1,((addR (y4.2.2.2.2,(at_ a y4.1))).1).2.1,((addR (y4.2.2.2.2,(at_ a y4.1))).1).2.2),SlS.mk  (⟨rfl,⟨rfl,⟨rfl,⟨rfl,⟨rfl,⟨rfl,⟨rfl,⟨rfl,k17⟩⟩⟩⟩⟩⟩⟩⟩)⟩))⟩⟩⟩⟩⟩⟩⟩⟩)) (fun h6 k24 => ⟨(congrArg (fun x : T_ar3_i64 × Int => x.1.1) k24 :),⟨(congrArg (fun x : T_ar3_i64 × Int => x.1.2.1) k24 :),⟨(congrArg (fun x : T_ar3_i64 × Int => x.1.2.2) k24 :),⟨(congrArg (fun x : T_ar3_i64 × Int => x.2) k24 :),trivial⟩⟩⟩⟩)⟩))
theorem f52.eq (a : List (T_ar3_i64)) : (f52.af a).gives f52.env (f52.args a) (f52.blks a) (f52.res a) (f52.blks' a) = f52.tree a := by kernel_rfl
end Go.Abs

-- interregnum/interregnumref03.Sum
namespace Go.Abs
open Go
def f53.args (a : List (T_ar3_i64)) : List D := [.slice .ro 3 a.length (gl e_ar3_i64 a)]
def f53.blks (a : List (T_ar3_i64)) : List (List D) := []
def f53.res (a : List (T_ar3_i64)) : List D := [.agg [.int .i64 (((sumR a).1).1),.int .i64 (((sumR a).1).2.1),.int .i64 (((sumR a).1).2.2)],.int .i64 ((sumR a).2)]
def f53.blks' (a : List (T_ar3_i64)) : List (List D) := []
def f53.C : Contract := FnC f53.args f53.blks (fun a => L20 a) f53.res f53.blks'
end Go.Abs

/- interregnum/interregnumref03.Sum -/
namespace Go.Abs
open Go
set_option linter.unusedVariables false
def f53.S0 (a : List (T_ar3_i64)) (x : Int × Int × Int × Int × Int × Int × Int) : Tm := ⟨[.slice .ro 3 a.length (gl e_ar3_i64 a),.dead,.ptr 0 0,.dead,.ptr 6 0,.dead,.dead,.dead,.dead,.dead,.int .i64 (a.length : Int),.int .i64 x.1,.dead,.dead,.dead,.dead,.dead,.dead,.dead,.dead,.dead,.dead,.dead,.dead,.dead,.dead,.dead,.dead,.dead,.dead],[(0,false,[.int .i64 x.2.1,.int .i64 x.2.2.1,.int .i64 x.2.2.2.1]),(6,false,[.int .i64 x.2.2.2.2.1,.int .i64 x.2.2.2.2.2.1,.int .i64 x.2.2.2.2.2.2])],[]⟩
def f53.kills (a : List (T_ar3_i64)) : List Hint := [.tell (Int × Int × Int × Int × Int × Int × Int) (f53.S0 a)]
def f53.cuts (a : List (T_ar3_i64)) : List (Nat × Σ β : Type,β→Tm) := []
def f53.af (a : List (T_ar3_i64)) : AF := AF.mk (.seq (.region [oT 2 0 (.alloc [.int .i64 (0),.int .i64 (0),.int .i64 (0)]) [],
 ⟨(some 3),4,.move,[.c (.int .i64 (0))],none⟩])
 (.seq (.region [oT 8 5 (.build [.int .i64 (0),.int .i64 (0),.int .i64 (0)] []) [],
 oT 4 6 (.alloc [.int .i64 (0),.int .i64 (0),.int .i64 (0)]) [],
 ⟨none,10,(.store 3),[.t 4,.t 8],none⟩])
 (.seq (.seq (.region [oT 9 11 .move [0],
 oT 10 12 (.len false) [9],
 ⟨(some 11),13,.move,[.c (.int .i64 (0))],none⟩])
 (.block 0 (.loopT (Int × Int × Int × Int × Int × Int × Int) (f53.S0 a) 14 45 (.seq (.region [oT 12 14 (.bin .lss) [11,10]])
 (.seq (.cond (.t 12) (.skip) (.exit 0))
 (.seq (.block 1 (.seq (.region [oT 13 15 .move [11],
 oT 5 16 .move [13]])
 (.seq (.region [oT 15 17 (.load true 3) [4],
 oT 16 18 .move [0],
 oT 17 19 .move [5],
 oT 18 20 (.indexAddr 3 none) [16,17],
 oT 19 21 (.load true 3) [18],
 oT 20 22 (.call false 68) [15,19],
 oT 14 26 .move [20],
 oT 21 27 (.extract 0) [14],
 oT 22 28 (.extract 1) [14],
 oT 6 29 (.alloc [.int .i64 (0),.int .i64 (0),.int .i64 (0)]) [],
 ⟨none,33,(.store 3),[.t 6,.t 21],none⟩,
 oT 7 34 .move [22]])
 (.seq (.seq (.region [oT 23 35 .move [7],
 ⟨(some 24),36,(.bin .neq),[.t 23,.c (.int .i64 (0))],none⟩])
 (.cond (.t 24) (.seq (.region [oT 25 37 (.build [.int .i64 (0),.int .i64 (0),.int .i64 (0)] []) [],
 oT 26 38 .move [7],
 ⟨none,39,(.store 3),[.t 2,.t 25],none⟩,
 oT 3 40 .move [26]])
 (.ret)) (.skip)))
 (.region [oT 27 41 (.load true 3) [6],
 ⟨none,42,(.store 3),[.t 4,.t 27],none⟩])))))
 (.region [⟨(some 28),43,(.bin .add),[.t 11,.c (.int .i64 (1))],none⟩,
 oT 11 44 .move [28]])))))))
 (.seq (.region [oT 29 45 (.load true 3) [4],
 ⟨none,46,(.store 3),[.t 2,.t 29],none⟩,
 ⟨(some 3),47,.move,[.c (.int .i64 (0))],none⟩])
 (.ret)))))
 [.cell 2 true 3,.tmp 3] 0 29
def f53.env : Env := [(68,f68.C)]
def f53.tree (a : List (T_ar3_i64)) : Prop := ∃ (I2 : (Int × Int × Int × Int × Int × Int × Int)→Prop) (μ3 : (Int × Int × Int × Int × Int × Int × Int)→Nat),(∃ x1 : Int × Int × Int × Int × Int × Int × Int,SlS e_ar3_i64 a (((a.length : Int) = (a.length : Int))∧((0 : Int) = x1.1)∧((0 : Int) = x1.2.1)∧((0 : Int) = x1.2.2.1)∧((0 : Int) = x1.2.2.2.1)∧((0 : Int) = x1.2.2.2.2.1)∧((0 : Int) = x1.2.2.2.2.2.1)∧((0 : Int) = x1.2.2.2.2.2.2)∧I2 x1))∧∀ y4 : Int × Int × Int × Int × Int × Int × Int,I2 y4→(Br (decide (y4.1 < (a.length : Int))) (Br (decide ((0 : Int)≤y4.1) && decide (y4.1 < (a.length : Int))) (∃ c8 : T_ar3_i64 × T_ar3_i64,(y4.2.2.2.2.1 = c8.1.1)∧(y4.2.2.2.2.2.1 = c8.1.2.1)∧(y4.2.2.2.2.2.2 = c8.1.2.2)∧(((at_ a y4.1).1) = c8.2.1)∧(((at_ a y4.1).2.1) = c8.2.2.1)∧(((at_ a y4.1).2.2) = c8.2.2.2)∧True∧Br (((addR c8).2) != (0 : Int)) (((0 : Int) = (((sumR a).1).1))∧((0 : Int) = (((sumR a).1).2.1))∧((0 : Int) = (((sumR a).1).2.2))∧(((addR c8).2) = ((sumR a).2))∧True) (Let (IntKind.i64.wrap (y4.1 + (1 : Int))) (fun v12 : Int => ∃ x13 : Int × Int × Int × Int × Int × Int × Int,SlS e_ar3_i64 a (((a.length : Int) = (a.length : Int))∧(v12 = x13.1)∧(y4.2.1 = x13.2.1)∧(y4.2.2.1 = x13.2.2.1)∧(y4.2.2.2.1 = x13.2.2.2.1)∧((((addR c8).1).1) = x13.2.2.2.2.1)∧((((addR c8).1).2.1) = x13.2.2.2.2.2.1)∧((((addR c8).1).2.2) = x13.2.2.2.2.2.2)∧I2 x13∧μ3 x13 < μ3 y4)))) False) ((y4.2.2.2.2.1 = (((sumR a).1).1))∧(y4.2.2.2.2.2.1 = (((sumR a).1).2.1))∧(y4.2.2.2.2.2.2 = (((sumR a).1).2.2))∧((0 : Int) = ((sumR a).2))∧True))
def f53.vc (a : List (T_ar3_i64)) : Prop := (∃ (I2 : (Int × Int × Int × Int × Int × Int × Int)→Prop) (μ3 : (Int × Int × Int × Int × Int × Int × Int)→Nat),I2 ((0 : Int),(0 : Int),(0 : Int),(0 : Int),(0 : Int),(0 : Int),(0 : Int))∧∀ y4 : Int × Int × Int × Int × Int × Int × Int,I2 y4→((y4.1 < (a.length : Int)→((0 : Int)≤y4.1∧y4.1 < (a.length : Int)∧((¬ ((addR (y4.2.2.2.2,(at_ a y4.1))).2) = (0 : Int)→((((0 : Int),(0 : Int),(0 : Int)),(addR (y4.2.2.2.2,(at_ a y4.1))).2) = sumR a))∧(¬ (¬ ((addR (y4.2.2.2.2,(at_ a y4.1))).2) = (0 : Int))→(-9223372036854775808≤(y4.1 + (1 : Int))∧(y4.1 + (1 : Int))≤9223372036854775807∧(I2 ((y4.1 + (1 : Int)),y4.2.1,y4.2.2.1,y4.2.2.2.1,((addR (y4.2.2.2.2,(at_ a y4.1))).1).1,((addR (y4.2.2.2.2,(at_ a y4.1))).1).2.1,((addR (y4.2.2.2.2,(at_ a y4.1))).1).2.2)∧μ3 ((y4.1 + (1 : Int)),y4.2.1,y4.2.2.1,y4.2.2.2.1,((addR (y4.2.2.2.2,(at_ a y4.1))).1).1,((addR (y4.2.2.2.2,(at_ a y4.1))).1).2.1,((addR (y4.2.2.2.2,(at_ a y4.1))).1).2.2) < μ3 y4))))))∧(¬ (y4.1 < (a.length : Int))→((y4.2.2.2.2,(0 : Int)) = sumR a))))
set_option maxRecDepth 100000 in
set_option maxHeartbeats 2000000 in
theorem f53.of (a : List (T_ar3_i64)) (h : f53.vc a) : f53.tree a := Exists.elim h (fun I2 h25_ => Exists.elim h25_ (fun μ3 h25 => ⟨I2,μ3,⟨((0 : Int),(0 : Int),(0 : Int),(0 : Int),(0 : Int),(0 : Int),(0 : Int)),SlS.mk  (⟨rfl,⟨rfl,⟨rfl,⟨rfl,⟨rfl,⟨rfl,⟨rfl,⟨rfl,h25.1⟩⟩⟩⟩⟩⟩⟩⟩)⟩,fun y4 h27 => br (h25.2 y4 h27) Cnd.dec (fun h5 k23 => chk k23.2.2 Cnd.ix ⟨k23.1,k23.2.1⟩ (fun h7 k21 => ⟨(y4.2.2.2.2,(at_ a y4.1)),⟨rfl,⟨rfl,⟨rfl,⟨rfl,⟨rfl,⟨rfl,⟨trivial,br k21 Cnd.ne (fun h9 k18 => ⟨(congrArg (fun x : T_ar3_i64 × Int => x.1.1) k18 :),⟨(congrArg (fun x : T_ar3_i64 × Int => x.1.2.1) k18 :),⟨(congrArg (fun x : T_ar3_i64 × Int => x.1.2.2) k18 :),⟨(congrArg (fun x : T_ar3_i64 × Int => x.2) k18 :),trivial⟩⟩⟩⟩) (fun h10 k19 => wrapK.i64 k19 (fun h15 h16 k17 => ⟨((y4.1 + (1 : Int)),y4.2.1,y4.2.2.1,y4.2.2.2.1,((addR (y4.2.2.2.2,(at_ a y4.1))).1).1,((addR (y4.2.2.2.2,(at_ a y4.1))).1).2.1,((addR (y4.2.2.2.2,(at_ a y4.1))).1).2.2),SlS.mk  (⟨rfl,⟨rfl,⟨rfl,⟨rfl,⟨rfl,⟨rfl,⟨rfl,⟨rfl,k17⟩⟩⟩⟩⟩⟩⟩⟩)⟩))⟩⟩⟩⟩⟩⟩⟩⟩)) (fun h6 k24 => ⟨(congrArg (fun x : T_ar3_i64 × Int => x.1.1) k24 :),⟨(congrArg (fun x : T_ar3_i64 × Int => x.1.2.1) k24 :),⟨(congrArg (fun x : T_ar3_i64 × Int => x.1.2.2) k24 :),⟨(congrArg (fun x : T_ar3_i64 × Int => x.2) k24 :),trivial⟩⟩⟩⟩)⟩))
theorem f53.eq (a : List (T_ar3_i64)) : (f53.af a).gives f53.env (f53.args a) (f53.blks a) (f53.res a) (f53.blks' a) = f53.tree a := by kernel_rfl
end Go.Abs

-- interregnum/quota.Used
namespace Go.Abs
open Go
def f27.args (a : (List (T_api_Job)) × ByteArray) : List D := [.slice .ro 13 a.1.length (gl e_api_Job a.1),.str a.2]
def f27.blks (a : (List (T_api_Job)) × ByteArray) : List (List D) := []
def f27.res (a : (List (T_api_Job)) × ByteArray) : List D := [.agg [.int .i64 (((usedR a).1).1),.int .i64 (((usedR a).1).2.1),.int .i64 (((usedR a).1).2.2)],.int .i64 ((usedR a).2)]
def f27.blks' (a : (List (T_api_Job)) × ByteArray) : List (List D) := []
def f27.C : Contract := FnC f27.args f27.blks (fun a => used_pre a) f27.res f27.blks'
end Go.Abs

/- interregnum/quota.Used -/
namespace Go.Abs
open Go
set_option linter.unusedVariables false
def f27.S0 (a : (List (T_api_Job)) × ByteArray) (x : (List (T_ar3_i64)) × Int × Int × Int × Int) : Tm := ⟨[.dead,.str a.2,.dead,.dead,.ptr 0 0,.dead,.slice (.own 5) 3 x.1.length (gl e_ar3_i64 x.1),.dead,.dead,.slice .ro 13 a.1.length (gl e_api_Job a.1),.int .i64 (a.1.length : Int),.int .i64 x.2.1,.dead,.dead,.dead,.dead,.dead,.dead,.dead,.dead,.dead,.dead,.dead,.dead,.dead,.dead,.dead,.dead,.dead,.dead,.dead],[(0,false,[.int .i64 x.2.2.1,.int .i64 x.2.2.2.1,.int .i64 x.2.2.2.2])],[(5,3,x.1.length)]⟩
def f27.kills (a : (List (T_api_Job)) × ByteArray) : List Hint := [.tell ((List (T_ar3_i64)) × Int × Int × Int × Int) (f27.S0 a)]
def f27.cuts (a : (List (T_api_Job)) × ByteArray) : List (Nat × Σ β : Type,β→Tm) := []
def f27.af (a : (List (T_api_Job)) × ByteArray) : AF := AF.mk (.seq (.region [oT 4 0 (.alloc [.int .i64 (0),.int .i64 (0),.int .i64 (0)]) [],
 ⟨(some 5),4,.move,[.c (.int .i64 (0))],none⟩])
 (.seq (.region [oT 6 5 (.nilSl 3) []])
 (.seq (.seq (.region [oT 9 6 .move [0],
 oT 10 7 (.len false) [9],
 ⟨(some 11),8,.move,[.c (.int .i64 (0))],none⟩])
 (.block 0 (.loopT ((List (T_ar3_i64)) × Int × Int × Int × Int) (f27.S0 a) 9 41 (.seq (.region [oT 12 9 (.bin .lss) [11,10]])
 (.seq (.cond (.t 12) (.skip) (.exit 0))
 (.seq (.block 1 (.seq (.region [oT 13 10 (.indexAddr 13 none) [9,11],
 oT 14 11 (.load true 13) [13],
 oT 8 12 (.alloc [.str ByteArray.empty,.str ByteArray.empty,.int .i64 (0),.int .i64 (0),.int .i64 (0),.int .i64 (0),.slice (.own 0) 2 0 gnil,.str ByteArray.empty,.str ByteArray.empty,.int .i64 (0),.int .i64 (0),.str ByteArray.empty,.int .i64 (0)]) [],
 ⟨none,26,(.store 13),[.t 8,.t 14],none⟩])
 (.seq (.region [oT 15 27 (.fieldAddr 0) [8],
 oT 16 28 (.fieldAddr 1) [15],
 oT 17 29 (.load false 1) [16],
 oT 18 30 .move [1],
 oT 19 31 (.bin .eql) [17,18]])
 (.cond (.t 19) (.region [oT 20 32 .move [6],
 oT 21 33 (.fieldAddr 0) [8],
 oT 22 34 (.fieldAddr 3) [21],
 oT 23 35 (.load true 3) [22],
 oT 24 36 (.buildSlice 3 1 [.int .i64 (0),.int .i64 (0),.int .i64 (0)] [(0,3)]) [23],
 oT 25 37 (.append 3 24) [20,24],
 oT 6 38 .move [25]]) (.skip)))))
 (.region [⟨(some 26),39,(.bin .add),[.t 11,.c (.int .i64 (1))],none⟩,
 oT 11 40 .move [26]])))))))
 (.seq (.region [oT 27 41 .move [6],
 oT 28 42 (.call false 52) [27],
 oT 29 46 (.extract 0) [28],
 oT 30 47 (.extract 1) [28],
 ⟨none,48,(.store 3),[.t 4,.t 29],none⟩,
 oT 5 49 .move [30]])
 (.ret)))))
 [.cell 4 true 3,.tmp 5] 0 29
def f27.env : Env := [(52,f52.C)]
def f27.tree (a : (List (T_api_Job)) × ByteArray) : Prop := ∃ (I2 : ((List (T_ar3_i64)) × Int × Int × Int × Int)→Prop) (μ3 : ((List (T_ar3_i64)) × Int × Int × Int × Int)→Nat),(∃ x1 : (List (T_ar3_i64)) × Int × Int × Int × Int,(a.2 = a.2)∧SlQ 0 x1.1.length gnil (gl e_ar3_i64 x1.1) (SlS e_api_Job a.1 (((a.1.length : Int) = (a.1.length : Int))∧((0 : Int) = x1.2.1)∧((0 : Int) = x1.2.2.1)∧((0 : Int) = x1.2.2.2.1)∧((0 : Int) = x1.2.2.2.2)∧(0 = x1.1.length)∧I2 x1)))∧∀ y4 : (List (T_ar3_i64)) × Int × Int × Int × Int,I2 y4→(Br (decide (y4.2.1 < (a.1.length : Int))) (Br (decide ((0 : Int)≤y4.2.1) && decide (y4.2.1 < (a.1.length : Int))) (Br ((((at_ a.1 y4.2.1).1).2.1).toList == a.2.toList) ((y4.1.length = y4.1.length∧room ((y4.1.length + 1) * 24))∧(Let (IntKind.i64.wrap (y4.2.1 + (1 : Int))) (fun v10 : Int => ∃ x11 : (List (T_ar3_i64)) × Int × Int × Int × Int,(a.2 = a.2)∧SlQ (y4.1.length + 1) x11.1.length (gapp (gl e_ar3_i64 y4.1) y4.1.length (fun _ => [.int .i64 ((((at_ a.1 y4.2.1).1).2.2.2.1).1),.int .i64 ((((at_ a.1 y4.2.1).1).2.2.2.1).2.1),.int .i64 ((((at_ a.1 y4.2.1).1).2.2.2.1).2.2)])) (gl e_ar3_i64 x11.1) (SlS e_api_Job a.1 (((a.1.length : Int) = (a.1.length : Int))∧(v10 = x11.2.1)∧(y4.2.2.1 = x11.2.2.1)∧(y4.2.2.2.1 = x11.2.2.2.1)∧(y4.2.2.2.2 = x11.2.2.2.2)∧((y4.1.length + 1) = x11.1.length)∧I2 x11∧μ3 x11 < μ3 y4))))) (Let (IntKind.i64.wrap (y4.2.1 + (1 : Int))) (fun v16 : Int => ∃ x17 : (List (T_ar3_i64)) × Int × Int × Int × Int,(a.2 = a.2)∧SlQ y4.1.length x17.1.length (gl e_ar3_i64 y4.1) (gl e_ar3_i64 x17.1) (SlS e_api_Job a.1 (((a.1.length : Int) = (a.1.length : Int))∧(v16 = x17.2.1)∧(y4.2.2.1 = x17.2.2.1)∧(y4.2.2.2.1 = x17.2.2.2.1)∧(y4.2.2.2.2 = x17.2.2.2.2)∧(y4.1.length = x17.1.length)∧I2 x17∧μ3 x17 < μ3 y4))))) False) (∃ c25 : List (T_ar3_i64),SlQ y4.1.length c25.length (gl e_ar3_i64 y4.1) (gl e_ar3_i64 c25) ((L20 c25)∧((((sumR c25).1).1) = (((usedR a).1).1))∧((((sumR c25).1).2.1) = (((usedR a).1).2.1))∧((((sumR c25).1).2.2) = (((usedR a).1).2.2))∧(((sumR c25).2) = ((usedR a).2))∧True)))
def f27.vc (a : (List (T_api_Job)) × ByteArray) : Prop := (∃ (I2 : ((List (T_ar3_i64)) × Int × Int × Int × Int)→Prop) (μ3 : ((List (T_ar3_i64)) × Int × Int × Int × Int)→Nat),I2 ([],(0 : Int),(0 : Int),(0 : Int),(0 : Int))∧∀ y4 : (List (T_ar3_i64)) × Int × Int × Int × Int,I2 y4→((y4.2.1 < (a.1.length : Int)→((0 : Int)≤y4.2.1∧y4.2.1 < (a.1.length : Int)∧(((((at_ a.1 y4.2.1).1).2.1) = a.2→(y4.1.length + 1≤1073741824∧(-9223372036854775808≤(y4.2.1 + (1 : Int))∧(y4.2.1 + (1 : Int))≤9223372036854775807∧(I2 (y4.1 ++ ([(((at_ a.1 y4.2.1).1).2.2.2.1)]),(y4.2.1 + (1 : Int)),y4.2.2.1,y4.2.2.2.1,y4.2.2.2.2)∧μ3 (y4.1 ++ ([(((at_ a.1 y4.2.1).1).2.2.2.1)]),(y4.2.1 + (1 : Int)),y4.2.2.1,y4.2.2.2.1,y4.2.2.2.2) < μ3 y4))))∧(¬ ((((at_ a.1 y4.2.1).1).2.1) = a.2)→(-9223372036854775808≤(y4.2.1 + (1 : Int))∧(y4.2.1 + (1 : Int))≤9223372036854775807∧(I2 (y4.1,(y4.2.1 + (1 : Int)),y4.2.2.1,y4.2.2.2.1,y4.2.2.2.2)∧μ3 (y4.1,(y4.2.1 + (1 : Int)),y4.2.2.1,y4.2.2.2.1,y4.2.2.2.2) < μ3 y4))))))∧(¬ (y4.2.1 < (a.1.length : Int))→(L20 y4.1∧((((sumR (y4.1)).1),(sumR (y4.1)).2) = usedR a)))))
set_option maxRecDepth 100000 in
set_option maxHeartbeats 2000000 in
theorem f27.of (a : (List (T_api_Job)) × ByteArray) (h : f27.vc a) : f27.tree a := Exists.elim h (fun I2 h30_ => Exists.elim h30_ (fun μ3 h30 => ⟨I2,μ3,⟨([],(0 : Int),(0 : Int),(0 : Int),(0 : Int)),⟨rfl,slQ (Rds.nil (enc := e_ar3_i64)) (SlS.mk  (⟨rfl,⟨rfl,⟨rfl,⟨rfl,⟨rfl,⟨(numR gnil (Rds.nil (enc := e_ar3_i64))),h30.1⟩⟩⟩⟩⟩⟩))⟩⟩,fun y4 h32 => br (h30.2 y4 h32) Cnd.dec (fun h5 k28 => chk k28.2.2 Cnd.ix ⟨k28.1,k28.2.1⟩ (fun h7 k24 => br k24 Cnd.seq (fun h8 k22 => ⟨⟨rfl,(room_of k22.1 (by decide))⟩,wrapK.i64 k22.2 (fun h13 h14 k15 => ⟨(y4.1 ++ ([(((at_ a.1 y4.2.1).1).2.2.2.1)]),(y4.2.1 + (1 : Int)),y4.2.2.1,y4.2.2.2.1,y4.2.2.2.2),⟨rfl,slQ (Rds.app (enc := e_ar3_i64) (Rds.self (enc := e_ar3_i64)) (Rds.one (enc := e_ar3_i64) (DEqs.refl _))) (SlS.mk  (⟨rfl,⟨rfl,⟨rfl,⟨rfl,⟨rfl,⟨(numR (gapp (gl e_ar3_i64 y4.1) y4.1.length (fun _ => [.int .i64 ((((at_ a.1 y4.2.1).1).2.2.2.1).1),.int .i64 ((((at_ a.1 y4.2.1).1).2.2.2.1).2.1),.int .i64 ((((at_ a.1 y4.2.1).1).2.2.2.1).2.2)])) (Rds.app (enc := e_ar3_i64) (Rds.self (enc := e_ar3_i64)) (Rds.one (enc := e_ar3_i64) (DEqs.refl _)))),k15⟩⟩⟩⟩⟩⟩))⟩⟩)⟩) (fun h9 k23 => wrapK.i64 k23 (fun h19 h20 k21 => ⟨(y4.1,(y4.2.1 + (1 : Int)),y4.2.2.1,y4.2.2.2.1,y4.2.2.2.2),⟨rfl,slQ (Rds.self (enc := e_ar3_i64)) (SlS.mk  (⟨rfl,⟨rfl,⟨rfl,⟨rfl,⟨rfl,⟨(numR (gl e_ar3_i64 y4.1) (Rds.self (enc := e_ar3_i64))),k21⟩⟩⟩⟩⟩⟩))⟩⟩)))) (fun h6 k29 => ⟨y4.1,slQ (Rds.self (enc := e_ar3_i64)) (⟨k29.1,⟨(congrArg (fun x : T_ar3_i64 × Int => x.1.1) k29.2 :),⟨(congrArg (fun x : T_ar3_i64 × Int => x.1.2.1) k29.2 :),⟨(congrArg (fun x : T_ar3_i64 × Int => x.1.2.2) k29.2 :),⟨(congrArg (fun x : T_ar3_i64 × Int => x.2) k29.2 :),trivial⟩⟩⟩⟩⟩)⟩)⟩))
theorem f27.eq (a : (List (T_api_Job)) × ByteArray) : (f27.af a).gives f27.env (f27.args a) (f27.blks a) (f27.res a) (f27.blks' a) = f27.tree a := by kernel_rfl
end Go.Abs

-- interregnum/interregnumref10.Used
namespace Go.Abs
open Go
def f28.args (a : (List (T_api_Job)) × ByteArray) : List D := [.slice .ro 13 a.1.length (gl e_api_Job a.1),.str a.2]
def f28.blks (a : (List (T_api_Job)) × ByteArray) : List (List D) := []
def f28.res (a : (List (T_api_Job)) × ByteArray) : List D := [.agg [.int .i64 (((usedR a).1).1),.int .i64 (((usedR a).1).2.1),.int .i64 (((usedR a).1).2.2)],.int .i64 ((usedR a).2)]
def f28.blks' (a : (List (T_api_Job)) × ByteArray) : List (List D) := []
def f28.C : Contract := FnC f28.args f28.blks (fun a => used_pre a) f28.res f28.blks'
end Go.Abs

/- interregnum/interregnumref10.Used -/
namespace Go.Abs
open Go
set_option linter.unusedVariables false
def f28.S0 (a : (List (T_api_Job)) × ByteArray) (x : (List (T_ar3_i64)) × Int) : Tm := ⟨[.slice .ro 13 a.1.length (gl e_api_Job a.1),.str a.2,.dead,.dead,.ptr 0 0,.dead,.slice (.own 5) 3 x.1.length (gl e_ar3_i64 x.1),.dead,.dead,.int .i64 (a.1.length : Int),.int .i64 x.2,.dead,.dead,.dead,.dead,.dead,.dead,.dead,.dead,.dead,.dead,.dead,.dead,.dead,.dead,.dead,.dead,.dead,.dead,.dead,.dead,.dead,.dead,.dead,.dead],[(0,false,[.int .i64 (0 : Int),.int .i64 (0 : Int),.int .i64 (0 : Int)])],[(5,3,x.1.length)]⟩
def f28.kills (a : (List (T_api_Job)) × ByteArray) : List Hint := [.tell ((List (T_ar3_i64)) × Int) (f28.S0 a)]
def f28.cuts (a : (List (T_api_Job)) × ByteArray) : List (Nat × Σ β : Type,β→Tm) := []
def f28.af (a : (List (T_api_Job)) × ByteArray) : AF := AF.mk (.seq (.region [oT 4 0 (.alloc [.int .i64 (0),.int .i64 (0),.int .i64 (0)]) [],
 ⟨(some 5),4,.move,[.c (.int .i64 (0))],none⟩])
 (.seq (.region [oT 6 5 (.nilSl 3) []])
 (.seq (.seq (.region [oT 8 6 .move [0],
 oT 9 7 (.len false) [8],
 ⟨(some 10),8,.move,[.c (.int .i64 (0))],none⟩])
 (.block 0 (.loopT ((List (T_ar3_i64)) × Int) (f28.S0 a) 9 32 (.seq (.region [oT 11 9 (.bin .lss) [10,9]])
 (.seq (.cond (.t 11) (.skip) (.exit 0))
 (.seq (.block 1 (.seq (.region [oT 12 10 .move [10],
 oT 7 11 .move [12]])
 (.seq (.region [oT 13 12 .move [0],
 oT 14 13 .move [7],
 oT 15 14 (.indexAddr 13 none) [13,14],
 oT 16 15 (.fieldAddr 0) [15],
 oT 17 16 (.fieldAddr 1) [16],
 oT 18 17 (.load false 1) [17],
 oT 19 18 .move [1],
 oT 20 19 (.bin .eql) [18,19]])
 (.cond (.t 20) (.region [oT 21 20 .move [6],
 oT 22 21 .move [0],
 oT 23 22 .move [7],
 oT 24 23 (.indexAddr 13 none) [22,23],
 oT 25 24 (.fieldAddr 0) [24],
 oT 26 25 (.fieldAddr 3) [25],
 oT 27 26 (.load true 3) [26],
 oT 28 27 (.buildSlice 3 1 [.int .i64 (0),.int .i64 (0),.int .i64 (0)] [(0,3)]) [27],
 oT 29 28 (.append 3 24) [21,28],
 oT 6 29 .move [29]]) (.skip)))))
 (.region [⟨(some 30),30,(.bin .add),[.t 10,.c (.int .i64 (1))],none⟩,
 oT 10 31 .move [30]])))))))
 (.seq (.region [oT 31 32 .move [6],
 oT 32 33 (.call false 53) [31],
 oT 33 37 (.extract 0) [32],
 oT 34 38 (.extract 1) [32],
 ⟨none,39,(.store 3),[.t 4,.t 33],none⟩,
 oT 5 40 .move [34]])
 (.ret)))))
 [.cell 4 true 3,.tmp 5] 0 33
def f28.env : Env := [(53,f53.C)]
def f28.tree (a : (List (T_api_Job)) × ByteArray) : Prop := ∃ (I2 : ((List (T_ar3_i64)) × Int)→Prop) (μ3 : ((List (T_ar3_i64)) × Int)→Nat),(∃ x1 : (List (T_ar3_i64)) × Int,SlS e_api_Job a.1 ((a.2 = a.2)∧SlQ 0 x1.1.length gnil (gl e_ar3_i64 x1.1) (((a.1.length : Int) = (a.1.length : Int))∧((0 : Int) = x1.2)∧((0 : Int) = (0 : Int))∧((0 : Int) = (0 : Int))∧((0 : Int) = (0 : Int))∧(0 = x1.1.length)∧I2 x1)))∧∀ y4 : (List (T_ar3_i64)) × Int,I2 y4→(Br (decide (y4.2 < (a.1.length : Int))) (Br (decide ((0 : Int)≤y4.2) && decide (y4.2 < (a.1.length : Int))) (Br ((((at_ a.1 y4.2).1).2.1).toList == a.2.toList) (Br (decide ((0 : Int)≤y4.2) && decide (y4.2 < (a.1.length : Int))) ((y4.1.length = y4.1.length∧room ((y4.1.length + 1) * 24))∧(Let (IntKind.i64.wrap (y4.2 + (1 : Int))) (fun v11 : Int => ∃ x12 : (List (T_ar3_i64)) × Int,SlS e_api_Job a.1 ((a.2 = a.2)∧SlQ (y4.1.length + 1) x12.1.length (gapp (gl e_ar3_i64 y4.1) y4.1.length (fun _ => [.int .i64 ((((at_ a.1 y4.2).1).2.2.2.1).1),.int .i64 ((((at_ a.1 y4.2).1).2.2.2.1).2.1),.int .i64 ((((at_ a.1 y4.2).1).2.2.2.1).2.2)])) (gl e_ar3_i64 x12.1) (((a.1.length : Int) = (a.1.length : Int))∧(v11 = x12.2)∧((0 : Int) = (0 : Int))∧((0 : Int) = (0 : Int))∧((0 : Int) = (0 : Int))∧((y4.1.length + 1) = x12.1.length)∧I2 x12∧μ3 x12 < μ3 y4))))) False) (Let (IntKind.i64.wrap (y4.2 + (1 : Int))) (fun v18 : Int => ∃ x19 : (List (T_ar3_i64)) × Int,SlS e_api_Job a.1 ((a.2 = a.2)∧SlQ y4.1.length x19.1.length (gl e_ar3_i64 y4.1) (gl e_ar3_i64 x19.1) (((a.1.length : Int) = (a.1.length : Int))∧(v18 = x19.2)∧((0 : Int) = (0 : Int))∧((0 : Int) = (0 : Int))∧((0 : Int) = (0 : Int))∧(y4.1.length = x19.1.length)∧I2 x19∧μ3 x19 < μ3 y4))))) False) (∃ c27 : List (T_ar3_i64),SlQ y4.1.length c27.length (gl e_ar3_i64 y4.1) (gl e_ar3_i64 c27) ((L20 c27)∧((((sumR c27).1).1) = (((usedR a).1).1))∧((((sumR c27).1).2.1) = (((usedR a).1).2.1))∧((((sumR c27).1).2.2) = (((usedR a).1).2.2))∧(((sumR c27).2) = ((usedR a).2))∧True)))
def f28.vc (a : (List (T_api_Job)) × ByteArray) : Prop := (∃ (I2 : ((List (T_ar3_i64)) × Int)→Prop) (μ3 : ((List (T_ar3_i64)) × Int)→Nat),I2 ([],(0 : Int))∧∀ y4 : (List (T_ar3_i64)) × Int,I2 y4→((y4.2 < (a.1.length : Int)→((0 : Int)≤y4.2∧y4.2 < (a.1.length : Int)∧(((((at_ a.1 y4.2).1).2.1) = a.2→((0 : Int)≤y4.2∧y4.2 < (a.1.length : Int)∧(y4.1.length + 1≤1073741824∧(-9223372036854775808≤(y4.2 + (1 : Int))∧(y4.2 + (1 : Int))≤9223372036854775807∧(I2 (y4.1 ++ ([(((at_ a.1 y4.2).1).2.2.2.1)]),(y4.2 + (1 : Int)))∧μ3 (y4.1 ++ ([(((at_ a.1 y4.2).1).2.2.2.1)]),(y4.2 + (1 : Int))) < μ3 y4)))))∧(¬ ((((at_ a.1 y4.2).1).2.1) = a.2)→(-9223372036854775808≤(y4.2 + (1 : Int))∧(y4.2 + (1 : Int))≤9223372036854775807∧(I2 (y4.1,(y4.2 + (1 : Int)))∧μ3 (y4.1,(y4.2 + (1 : Int))) < μ3 y4))))))∧(¬ (y4.2 < (a.1.length : Int))→(L20 y4.1∧((((sumR (y4.1)).1),(sumR (y4.1)).2) = usedR a)))))
set_option maxRecDepth 100000 in
set_option maxHeartbeats 2000000 in
theorem f28.of (a : (List (T_api_Job)) × ByteArray) (h : f28.vc a) : f28.tree a := Exists.elim h (fun I2 h32_ => Exists.elim h32_ (fun μ3 h32 => ⟨I2,μ3,⟨([],(0 : Int)),SlS.mk  (⟨rfl,slQ (Rds.nil (enc := e_ar3_i64)) (⟨rfl,⟨rfl,⟨rfl,⟨rfl,⟨rfl,⟨(numR gnil (Rds.nil (enc := e_ar3_i64))),h32.1⟩⟩⟩⟩⟩⟩)⟩)⟩,fun y4 h34 => br (h32.2 y4 h34) Cnd.dec (fun h5 k30 => chk k30.2.2 Cnd.ix ⟨k30.1,k30.2.1⟩ (fun h7 k26 => br k26 Cnd.seq (fun h8 k24 => chk k24.2.2 Cnd.ix ⟨k24.1,k24.2.1⟩ (fun h10 k17 => ⟨⟨rfl,(room_of k17.1 (by decide))⟩,wrapK.i64 k17.2 (fun h14 h15 k16 => ⟨(y4.1 ++ ([(((at_ a.1 y4.2).1).2.2.2.1)]),(y4.2 + (1 : Int))),SlS.mk  (⟨rfl,slQ (Rds.app (enc := e_ar3_i64) (Rds.self (enc := e_ar3_i64)) (Rds.one (enc := e_ar3_i64) (DEqs.refl _))) (⟨rfl,⟨rfl,⟨rfl,⟨rfl,⟨rfl,⟨(numR (gapp (gl e_ar3_i64 y4.1) y4.1.length (fun _ => [.int .i64 ((((at_ a.1 y4.2).1).2.2.2.1).1),.int .i64 ((((at_ a.1 y4.2).1).2.2.2.1).2.1),.int .i64 ((((at_ a.1 y4.2).1).2.2.2.1).2.2)])) (Rds.app (enc := e_ar3_i64) (Rds.self (enc := e_ar3_i64)) (Rds.one (enc := e_ar3_i64) (DEqs.refl _)))),k16⟩⟩⟩⟩⟩⟩)⟩)⟩)⟩)) (fun h9 k25 => wrapK.i64 k25 (fun h21 h22 k23 => ⟨(y4.1,(y4.2 + (1 : Int))),SlS.mk  (⟨rfl,slQ (Rds.self (enc := e_ar3_i64)) (⟨rfl,⟨rfl,⟨rfl,⟨rfl,⟨rfl,⟨(numR (gl e_ar3_i64 y4.1) (Rds.self (enc := e_ar3_i64))),k23⟩⟩⟩⟩⟩⟩)⟩)⟩)))) (fun h6 k31 => ⟨y4.1,slQ (Rds.self (enc := e_ar3_i64)) (⟨k31.1,⟨(congrArg (fun x : T_ar3_i64 × Int => x.1.1) k31.2 :),⟨(congrArg (fun x : T_ar3_i64 × Int => x.1.2.1) k31.2 :),⟨(congrArg (fun x : T_ar3_i64 × Int => x.1.2.2) k31.2 :),⟨(congrArg (fun x : T_ar3_i64 × Int => x.2) k31.2 :),trivial⟩⟩⟩⟩⟩)⟩)⟩))
theorem f28.eq (a : (List (T_api_Job)) × ByteArray) : (f28.af a).gives f28.env (f28.args a) (f28.blks a) (f28.res a) (f28.blks' a) = f28.tree a := by kernel_rfl
end Go.Abs

-- interregnum/quota.Admit
namespace Go.Abs
open Go
end Go.Abs

/- interregnum/quota.Admit -/
namespace Go.Abs
open Go
set_option linter.unusedVariables false
end Go.Abs

-- interregnum/interregnumref10.Admit
namespace Go.Abs
open Go
end Go.Abs

/- interregnum/interregnumref10.Admit -/
namespace Go.Abs
open Go
set_option linter.unusedVariables false
end Go.Abs

-- interregnum/quota.Find$1
namespace Go.Abs
open Go
def f57.args (a : T_api_Job × ByteArray) : List D := [.agg [.str a.1.1.1,.str a.1.1.2.1,.int .i64 a.1.1.2.2.1,.int .i64 a.1.1.2.2.2.1.1,.int .i64 a.1.1.2.2.2.1.2.1,.int .i64 a.1.1.2.2.2.1.2.2,.slice .ro 2 a.1.1.2.2.2.2.1.length (gl e_api_Label a.1.1.2.2.2.2.1),.str a.1.1.2.2.2.2.2.1,.str a.1.1.2.2.2.2.2.2.1,.int .i64 a.1.1.2.2.2.2.2.2.2,.int .i64 a.1.2.1,.str a.1.2.2.1,.int .i64 a.1.2.2.2],.eptr [.str a.2]]
def f57.blks (a : T_api_Job × ByteArray) : List (List D) := []
def f57.res (a : T_api_Job × ByteArray) : List D := [.bool (namedR a)]
def f57.blks' (a : T_api_Job × ByteArray) : List (List D) := []
def f57.C : Contract := FnC f57.args f57.blks (fun _ => True) f57.res f57.blks'
end Go.Abs

/- interregnum/quota.Find$1 -/
namespace Go.Abs
open Go
set_option linter.unusedVariables false
def f57.kills (a : T_api_Job × ByteArray) : List Hint := []
def f57.cuts (a : T_api_Job × ByteArray) : List (Nat × Σ β : Type,β→Tm) := []
def f57.af (a : T_api_Job × ByteArray) : AF := AF.mk (.seq (.region [oT 2 0 .box [0],
 ⟨(some 3),1,.move,[.c (.bool false)],none⟩])
 (.seq (.region [oT 4 2 (.fieldAddr 0) [2],
 oT 5 3 (.fieldAddr 0) [4],
 oT 6 4 (.load false 1) [5],
 oT 7 5 (.load false 1) [1],
 oT 8 6 (.bin .eql) [6,7],
 oT 3 7 .move [8]])
 (.ret)))
 [.tmp 3] 0 7
def f57.env : Env := []
def f57.tree (a : T_api_Job × ByteArray) : Prop := ((a.1.1.1.toList == a.2.toList) = (namedR a))∧True
def f57.vc (a : T_api_Job × ByteArray) : Prop := ((a.1.1.1.toList == a.2.toList) = namedR a)
set_option maxRecDepth 100000 in
set_option maxHeartbeats 2000000 in
theorem f57.of (a : T_api_Job × ByteArray) (h : f57.vc a) : f57.tree a := ⟨h,trivial⟩
theorem f57.eq (a : T_api_Job × ByteArray) : (f57.af a).gives f57.env (f57.args a) (f57.blks a) (f57.res a) (f57.blks' a) = f57.tree a := by kernel_rfl
end Go.Abs

-- slices.IndexFunc[[]interregnum/api.Job,interregnum/api.Job]
namespace Go.Abs
open Go
def f56.args (a : (List (T_api_Job)) × ByteArray) : List D := [.slice .ro 13 a.1.length (gl e_api_Job a.1),.fn 57 [.eptr [.str a.2]]]
def f56.blks (a : (List (T_api_Job)) × ByteArray) : List (List D) := []
def f56.res (a : (List (T_api_Job)) × ByteArray) : List D := [.int .i64 (findR a)]
def f56.blks' (a : (List (T_api_Job)) × ByteArray) : List (List D) := []
def f56.C : Contract := FnC f56.args f56.blks (fun a => find_pre a) f56.res f56.blks'
end Go.Abs

/- slices.IndexFunc[[]interregnum/api.Job,interregnum/api.Job] -/
namespace Go.Abs
open Go
set_option linter.unusedVariables false
def f56.S0 (a : (List (T_api_Job)) × ByteArray) (x : Int) : Tm := ⟨[.slice .ro 13 a.1.length (gl e_api_Job a.1),.fn 57 [.eptr [.str a.2]],.dead,.dead,.dead,.dead,.dead,.int .i64 (a.1.length : Int),.int .i64 x,.dead,.dead,.dead,.dead,.dead,.dead,.dead,.dead,.dead,.dead],[],[]⟩
def f56.kills (a : (List (T_api_Job)) × ByteArray) : List Hint := [.tell Int (f56.S0 a)]
def f56.cuts (a : (List (T_api_Job)) × ByteArray) : List (Nat × Σ β : Type,β→Tm) := []
def f56.af (a : (List (T_api_Job)) × ByteArray) : AF := AF.mk (.seq (.region [⟨(some 4),0,.move,[.c (.int .i64 (0))],none⟩])
 (.seq (.seq (.region [oT 6 1 .move [0],
 oT 7 2 (.len false) [6],
 ⟨(some 8),3,.move,[.c (.int .i64 (0))],none⟩])
 (.block 0 (.loopT Int (f56.S0 a) 4 20 (.seq (.region [oT 9 4 (.bin .lss) [8,7]])
 (.seq (.cond (.t 9) (.skip) (.exit 0))
 (.seq (.block 1 (.seq (.region [oT 10 5 .move [8],
 oT 5 6 .move [10]])
 (.seq (.region [oT 11 7 .move [1],
 oT 12 8 .move [0],
 oT 13 9 .move [5],
 oT 14 10 (.indexAddr 13 none) [12,13],
 oT 15 11 (.load true 13) [14],
 oT 16 12 (.callv false) [11,15]])
 (.cond (.t 16) (.seq (.region [oT 17 16 .move [5],
 oT 4 17 .move [17]])
 (.ret)) (.skip)))))
 (.region [⟨(some 18),18,(.bin .add),[.t 8,.c (.int .i64 (1))],none⟩,
 oT 8 19 .move [18]])))))))
 (.seq (.region [⟨(some 4),20,.move,[.c (.int .i64 (-1))],none⟩])
 (.ret))))
 [.tmp 4] 0 17
def f56.env : Env := [(57,f57.C)]
def f56.tree (a : (List (T_api_Job)) × ByteArray) : Prop := ∃ (I2 : Int→Prop) (μ3 : Int→Nat),(∃ x1 : Int,SlS e_api_Job a.1 ((DEqs [.eptr [.str a.2]] [.eptr [.str a.2]])∧((a.1.length : Int) = (a.1.length : Int))∧((0 : Int) = x1)∧I2 x1))∧∀ y4 : Int,I2 y4→(Br (decide (y4 < (a.1.length : Int))) (Br (decide ((0 : Int)≤y4) && decide (y4 < (a.1.length : Int))) (∃ c8 : T_api_Job × ByteArray,((((at_ a.1 y4).1).1) = c8.1.1.1)∧((((at_ a.1 y4).1).2.1) = c8.1.1.2.1)∧((((at_ a.1 y4).1).2.2.1) = c8.1.1.2.2.1)∧(((((at_ a.1 y4).1).2.2.2.1).1) = c8.1.1.2.2.2.1.1)∧(((((at_ a.1 y4).1).2.2.2.1).2.1) = c8.1.1.2.2.2.1.2.1)∧(((((at_ a.1 y4).1).2.2.2.1).2.2) = c8.1.1.2.2.2.1.2.2)∧SlQ ((((at_ a.1 y4).1).2.2.2.2.1).length) c8.1.1.2.2.2.2.1.length (gl e_api_Label (((at_ a.1 y4).1).2.2.2.2.1)) (gl e_api_Label c8.1.1.2.2.2.2.1) (((((at_ a.1 y4).1).2.2.2.2.2.1) = c8.1.1.2.2.2.2.2.1)∧((((at_ a.1 y4).1).2.2.2.2.2.2.1) = c8.1.1.2.2.2.2.2.2.1)∧((((at_ a.1 y4).1).2.2.2.2.2.2.2) = c8.1.1.2.2.2.2.2.2.2)∧(((at_ a.1 y4).2.1) = c8.1.2.1)∧(((at_ a.1 y4).2.2.1) = c8.1.2.2.1)∧(((at_ a.1 y4).2.2.2) = c8.1.2.2.2)∧(DEqs [.str a.2] [.str c8.2])∧True∧Br (namedR c8) ((y4 = (findR a))∧True) (Let (IntKind.i64.wrap (y4 + (1 : Int))) (fun v12 : Int => ∃ x13 : Int,SlS e_api_Job a.1 ((DEqs [.eptr [.str a.2]] [.eptr [.str a.2]])∧((a.1.length : Int) = (a.1.length : Int))∧(v12 = x13)∧I2 x13∧μ3 x13 < μ3 y4))))) False) (((-1 : Int) = (findR a))∧True))
def f56.vc (a : (List (T_api_Job)) × ByteArray) : Prop := (∃ (I2 : Int→Prop) (μ3 : Int→Nat),I2 (0 : Int)∧∀ y4 : Int,I2 y4→((y4 < (a.1.length : Int)→((0 : Int)≤y4∧y4 < (a.1.length : Int)∧(((namedR ((((at_ a.1 y4).1),(at_ a.1 y4).2.1,(at_ a.1 y4).2.2.1,(at_ a.1 y4).2.2.2),a.2)) = true→(y4 = findR a))∧(¬ ((namedR ((((at_ a.1 y4).1),(at_ a.1 y4).2.1,(at_ a.1 y4).2.2.1,(at_ a.1 y4).2.2.2),a.2)) = true)→(-9223372036854775808≤(y4 + (1 : Int))∧(y4 + (1 : Int))≤9223372036854775807∧(I2 (y4 + (1 : Int))∧μ3 (y4 + (1 : Int)) < μ3 y4))))))∧(¬ (y4 < (a.1.length : Int))→((-1 : Int) = findR a))))
set_option maxRecDepth 100000 in
set_option maxHeartbeats 2000000 in
theorem f56.of (a : (List (T_api_Job)) × ByteArray) (h : f56.vc a) : f56.tree a := Exists.elim h (fun I2 h25_ => Exists.elim h25_ (fun μ3 h25 => ⟨I2,μ3,⟨(0 : Int),SlS.mk  (⟨(DEqs.refl _),⟨rfl,⟨rfl,h25.1⟩⟩⟩)⟩,fun y4 h27 => br (h25.2 y4 h27) Cnd.dec (fun h5 k23 => chk k23.2.2 Cnd.ix ⟨k23.1,k23.2.1⟩ (fun h7 k21 => ⟨((((at_ a.1 y4).1),(at_ a.1 y4).2.1,(at_ a.1 y4).2.2.1,(at_ a.1 y4).2.2.2),a.2),⟨rfl,⟨rfl,⟨rfl,⟨rfl,⟨rfl,⟨rfl,slQ (Rds.self (enc := e_api_Label)) (⟨rfl,⟨rfl,⟨rfl,⟨rfl,⟨rfl,⟨rfl,⟨(DEqs.refl _),⟨trivial,br k21 Cnd.b (fun h9 k18 => ⟨k18,trivial⟩) (fun h10 k19 => wrapK.i64 k19 (fun h15 h16 k17 => ⟨(y4 + (1 : Int)),SlS.mk  (⟨(DEqs.refl _),⟨rfl,⟨rfl,k17⟩⟩⟩)⟩))⟩⟩⟩⟩⟩⟩⟩⟩)⟩⟩⟩⟩⟩⟩⟩)) (fun h6 k24 => ⟨k24,trivial⟩)⟩))
theorem f56.eq (a : (List (T_api_Job)) × ByteArray) : (f56.af a).gives f56.env (f56.args a) (f56.blks a) (f56.res a) (f56.blks' a) = f56.tree a := by kernel_rfl
end Go.Abs

-- interregnum/quota.Find
namespace Go.Abs
open Go
def f31.args (a : (List (T_api_Job)) × ByteArray) : List D := [.slice .ro 13 a.1.length (gl e_api_Job a.1),.str a.2]
def f31.blks (a : (List (T_api_Job)) × ByteArray) : List (List D) := []
def f31.res (a : (List (T_api_Job)) × ByteArray) : List D := [.int .i64 (findR a)]
def f31.blks' (a : (List (T_api_Job)) × ByteArray) : List (List D) := []
def f31.C : Contract := FnC f31.args f31.blks (fun a => find_pre a) f31.res f31.blks'
end Go.Abs

/- interregnum/quota.Find -/
namespace Go.Abs
open Go
set_option linter.unusedVariables false
def f31.kills (a : (List (T_api_Job)) × ByteArray) : List Hint := []
def f31.cuts (a : (List (T_api_Job)) × ByteArray) : List (Nat × Σ β : Type,β→Tm) := []
def f31.af (a : (List (T_api_Job)) × ByteArray) : AF := AF.mk (.seq (.region [oT 3 0 .box [1],
 ⟨(some 4),1,.move,[.c (.int .i64 (0))],none⟩])
 (.seq (.region [oT 5 2 .move [0],
 oT 6 3 (.mkfunc 57 0) [3],
 oT 7 4 (.call false 56) [5,6],
 oT 4 8 .move [7]])
 (.ret)))
 [.tmp 4] 0 6
def f31.env : Env := [(56,f56.C)]
def f31.tree (a : (List (T_api_Job)) × ByteArray) : Prop := ∃ c1 : (List (T_api_Job)) × ByteArray,SlQ a.1.length c1.1.length (gl e_api_Job a.1) (gl e_api_Job c1.1) ((DEqs [.eptr [.str a.2]] [.eptr [.str c1.2]])∧(find_pre c1)∧((findR c1) = (findR a))∧True)
def f31.vc (a : (List (T_api_Job)) × ByteArray) : Prop := (find_pre (a.1,a.2)∧((findR (a.1,a.2)) = findR a))
set_option maxRecDepth 100000 in
set_option maxHeartbeats 2000000 in
theorem f31.of (a : (List (T_api_Job)) × ByteArray) (h : f31.vc a) : f31.tree a := ⟨(a.1,a.2),slQ (Rds.self (enc := e_api_Job)) (⟨(DEqs.refl _),⟨h.1,⟨h.2,trivial⟩⟩⟩)⟩
theorem f31.eq (a : (List (T_api_Job)) × ByteArray) : (f31.af a).gives f31.env (f31.args a) (f31.blks a) (f31.res a) (f31.blks' a) = f31.tree a := by kernel_rfl
end Go.Abs

-- interregnum/interregnumref10.Find
namespace Go.Abs
open Go
def f32.args (a : (List (T_api_Job)) × ByteArray) : List D := [.slice .ro 13 a.1.length (gl e_api_Job a.1),.str a.2]
def f32.blks (a : (List (T_api_Job)) × ByteArray) : List (List D) := []
def f32.res (a : (List (T_api_Job)) × ByteArray) : List D := [.int .i64 (findR a)]
def f32.blks' (a : (List (T_api_Job)) × ByteArray) : List (List D) := []
def f32.C : Contract := FnC f32.args f32.blks (fun a => find_pre a) f32.res f32.blks'
end Go.Abs

/- interregnum/interregnumref10.Find -/
namespace Go.Abs
open Go
set_option linter.unusedVariables false
def f32.S0 (a : (List (T_api_Job)) × ByteArray) (x : Int) : Tm := ⟨[.slice .ro 13 a.1.length (gl e_api_Job a.1),.str a.2,.dead,.dead,.dead,.dead,.dead,.int .i64 (a.1.length : Int),.int .i64 x,.dead,.dead,.dead,.dead,.dead,.dead,.dead,.dead,.dead,.dead,.dead,.dead],[],[]⟩
def f32.kills (a : (List (T_api_Job)) × ByteArray) : List Hint := [.tell Int (f32.S0 a)]
def f32.cuts (a : (List (T_api_Job)) × ByteArray) : List (Nat × Σ β : Type,β→Tm) := []
def f32.af (a : (List (T_api_Job)) × ByteArray) : AF := AF.mk (.seq (.region [⟨(some 4),0,.move,[.c (.int .i64 (0))],none⟩])
 (.seq (.seq (.region [oT 6 1 .move [0],
 oT 7 2 (.len false) [6],
 ⟨(some 8),3,.move,[.c (.int .i64 (0))],none⟩])
 (.block 0 (.loopT Int (f32.S0 a) 4 19 (.seq (.region [oT 9 4 (.bin .lss) [8,7]])
 (.seq (.cond (.t 9) (.skip) (.exit 0))
 (.seq (.block 1 (.seq (.region [oT 10 5 .move [8],
 oT 5 6 .move [10]])
 (.seq (.region [oT 11 7 .move [0],
 oT 12 8 .move [5],
 oT 13 9 (.indexAddr 13 none) [11,12],
 oT 14 10 (.fieldAddr 0) [13],
 oT 15 11 (.fieldAddr 0) [14],
 oT 16 12 (.load false 1) [15],
 oT 17 13 .move [1],
 oT 18 14 (.bin .eql) [16,17]])
 (.cond (.t 18) (.seq (.region [oT 19 15 .move [5],
 oT 4 16 .move [19]])
 (.ret)) (.skip)))))
 (.region [⟨(some 20),17,(.bin .add),[.t 8,.c (.int .i64 (1))],none⟩,
 oT 8 18 .move [20]])))))))
 (.seq (.region [⟨(some 4),19,.move,[.c (.int .i64 (-1))],none⟩])
 (.ret))))
 [.tmp 4] 0 19
def f32.env : Env := []
def f32.tree (a : (List (T_api_Job)) × ByteArray) : Prop := ∃ (I2 : Int→Prop) (μ3 : Int→Nat),(∃ x1 : Int,SlS e_api_Job a.1 ((a.2 = a.2)∧((a.1.length : Int) = (a.1.length : Int))∧((0 : Int) = x1)∧I2 x1))∧∀ y4 : Int,I2 y4→(Br (decide (y4 < (a.1.length : Int))) (Br (decide ((0 : Int)≤y4) && decide (y4 < (a.1.length : Int))) (Br ((((at_ a.1 y4).1).1).toList == a.2.toList) ((y4 = (findR a))∧True) (Let (IntKind.i64.wrap (y4 + (1 : Int))) (fun v11 : Int => ∃ x12 : Int,SlS e_api_Job a.1 ((a.2 = a.2)∧((a.1.length : Int) = (a.1.length : Int))∧(v11 = x12)∧I2 x12∧μ3 x12 < μ3 y4)))) False) (((-1 : Int) = (findR a))∧True))
def f32.vc (a : (List (T_api_Job)) × ByteArray) : Prop := (∃ (I2 : Int→Prop) (μ3 : Int→Nat),I2 (0 : Int)∧∀ y4 : Int,I2 y4→((y4 < (a.1.length : Int)→((0 : Int)≤y4∧y4 < (a.1.length : Int)∧(((((at_ a.1 y4).1).1) = a.2→(y4 = findR a))∧(¬ ((((at_ a.1 y4).1).1) = a.2)→(-9223372036854775808≤(y4 + (1 : Int))∧(y4 + (1 : Int))≤9223372036854775807∧(I2 (y4 + (1 : Int))∧μ3 (y4 + (1 : Int)) < μ3 y4))))))∧(¬ (y4 < (a.1.length : Int))→((-1 : Int) = findR a))))
set_option maxRecDepth 100000 in
set_option maxHeartbeats 2000000 in
theorem f32.of (a : (List (T_api_Job)) × ByteArray) (h : f32.vc a) : f32.tree a := Exists.elim h (fun I2 h23_ => Exists.elim h23_ (fun μ3 h23 => ⟨I2,μ3,⟨(0 : Int),SlS.mk  (⟨rfl,⟨rfl,⟨rfl,h23.1⟩⟩⟩)⟩,fun y4 h25 => br (h23.2 y4 h25) Cnd.dec (fun h5 k21 => chk k21.2.2 Cnd.ix ⟨k21.1,k21.2.1⟩ (fun h7 k19 => br k19 Cnd.seq (fun h8 k17 => ⟨k17,trivial⟩) (fun h9 k18 => wrapK.i64 k18 (fun h14 h15 k16 => ⟨(y4 + (1 : Int)),SlS.mk  (⟨rfl,⟨rfl,⟨rfl,k16⟩⟩⟩)⟩)))) (fun h6 k22 => ⟨k22,trivial⟩)⟩))
theorem f32.eq (a : (List (T_api_Job)) × ByteArray) : (f32.af a).gives f32.env (f32.args a) (f32.blks a) (f32.res a) (f32.blks' a) = f32.tree a := by kernel_rfl
end Go.Abs

-- interregnum/quota.Waits
namespace Go.Abs
open Go
def f33.args (a : T_api_Job) : List D := [.agg [.str a.1.1,.str a.1.2.1,.int .i64 a.1.2.2.1,.int .i64 a.1.2.2.2.1.1,.int .i64 a.1.2.2.2.1.2.1,.int .i64 a.1.2.2.2.1.2.2,.slice .ro 2 a.1.2.2.2.2.1.length (gl e_api_Label a.1.2.2.2.2.1),.str a.1.2.2.2.2.2.1,.str a.1.2.2.2.2.2.2.1,.int .i64 a.1.2.2.2.2.2.2.2,.int .i64 a.2.1,.str a.2.2.1,.int .i64 a.2.2.2]]
def f33.blks (a : T_api_Job) : List (List D) := []
def f33.res (a : T_api_Job) : List D := [.bool (waitsR a)]
def f33.blks' (a : T_api_Job) : List (List D) := []
def f33.C : Contract := FnC f33.args f33.blks (fun _ => True) f33.res f33.blks'
end Go.Abs

/- interregnum/quota.Waits -/
namespace Go.Abs
open Go
set_option linter.unusedVariables false
def f33.kills (a : T_api_Job) : List Hint := []
def f33.cuts (a : T_api_Job) : List (Nat × Σ β : Type,β→Tm) := []
def f33.af (a : T_api_Job) : AF := AF.mk (.seq (.region [oT 1 0 .box [0],
 ⟨(some 2),1,.move,[.c (.bool false)],none⟩])
 (.seq (.region [oT 3 2 (.fieldAddr 11) [1],
 oT 4 3 (.load false 1) [3],
 ⟨(some 5),4,(.bin .eql),[.t 4,.c (.str ByteArray.empty)],none⟩,
 oT 2 5 .move [5]])
 (.ret)))
 [.tmp 2] 0 5
def f33.env : Env := []
def f33.tree (a : T_api_Job) : Prop := ((a.2.2.1.toList == ByteArray.empty.toList) = (waitsR a))∧True
def f33.vc (a : T_api_Job) : Prop := ((a.2.2.1.toList == ByteArray.empty.toList) = waitsR a)
set_option maxRecDepth 100000 in
set_option maxHeartbeats 2000000 in
theorem f33.of (a : T_api_Job) (h : f33.vc a) : f33.tree a := ⟨h,trivial⟩
theorem f33.eq (a : T_api_Job) : (f33.af a).gives f33.env (f33.args a) (f33.blks a) (f33.res a) (f33.blks' a) = f33.tree a := by kernel_rfl
end Go.Abs

-- interregnum/interregnumlaw10.awake
namespace Go.Abs
open Go
end Go.Abs

/- interregnum/interregnumlaw10.awake -/
namespace Go.Abs
open Go
set_option linter.unusedVariables false
end Go.Abs

/- What queues bear: what the code asks is so. -/
namespace Go.Abs
open Go

theorem f69.ok (a : TRes × TRes × Int) (h : both_pre a) : f69.vc a := by
  obtain ⟨x,y,s⟩ := a
  have h : s = 1 ∨ s = -1 := h
  unfold f69.vc bothR
  simp only
  refine ⟨fun c => ?_,fun c1 => ⟨fun c => ?_,fun c2 => ?_⟩⟩
  · rw [if_pos (fun hh => c hh.1)]; rfl
  · rw [if_pos (fun hh => c hh.2)]; rfl
  · have c1 := Classical.not_not.1 c1
    have c2 := Classical.not_not.1 c2
    have r1 := rightB_iff.1 c1
    have r2 := rightB_iff.1 c2
    rw [if_neg (not_not_intro (And.intro c1 c2))]
    rcases h with rfl | rfl
    · simp only [Int.one_mul,if_true]
      refine ⟨by omega,by omega,by omega,by omega,by omega,by omega,by omega,by omega,by omega,by omega,by omega,by omega,fun c => ?_,fun c => ?_⟩
      · rw [if_neg (show ¬ rightB (addV x y) = true from c)]; rfl
      · rw [if_pos (show rightB (addV x y) = true from Classical.not_not.1 c)]; rfl
    · have e : addV x (subV zeroR y) = subV x y := by
        unfold addV subV zeroR; simp only [Prod.mk.injEq]; omega
      have en : ∀ z : Int,-1 * z = 0 - z := fun z => by omega
      have hne : ¬ ((-1 : Int) = 1) := by decide
      simp only [hne,if_false,en]
      refine ⟨by omega,by omega,by omega,by omega,by omega,by omega,by omega,by omega,by omega,by omega,by omega,by omega,fun c => ?_,fun c => ?_⟩
      · rw [if_neg (fun hh => c (by rw [← e] at hh; exact hh))]; rfl
      · have c := Classical.not_not.1 c
        rw [if_pos (by rw [← e]; exact c),← e]; rfl

theorem f54.ok (a : TRes × TRes) (_ : True) : f54.vc a := ⟨.inl rfl,rfl⟩

theorem f68.ok (a : TRes × TRes) (_ : True) : f68.vc a := by
  obtain ⟨x,y⟩ := a
  unfold f68.vc addR bothR
  simp only [if_true]
  refine ⟨fun c => ?_,fun c1 => ⟨fun c => ?_,fun c2 => ?_⟩⟩
  · rw [if_pos (fun hh => c hh.1)]; rfl
  · rw [if_pos (fun hh => c hh.2)]; rfl
  · have c1 := Classical.not_not.1 c1
    have c2 := Classical.not_not.1 c2
    have r1 := rightB_iff.1 c1
    have r2 := rightB_iff.1 c2
    rw [if_neg (not_not_intro (And.intro c1 c2))]
    refine ⟨by omega,by omega,by omega,by omega,by omega,by omega,fun c => ?_,fun c => ?_⟩
    · rw [if_neg (show ¬ rightB (addV x y) = true from c)]; rfl
    · rw [if_pos (show rightB (addV x y) = true from Classical.not_not.1 c)]; rfl

theorem f34.ok (a : TRes × TRes) (_ : True) : f34.vc a := by
  obtain ⟨x,y⟩ := a
  have hb : ¬ (x.1 ≤ y.1 ∧ x.2.1 ≤ y.2.1 ∧ x.2.2 ≤ y.2.2) → false = fitsR (x,y) := fun h => (Bool.eq_false_iff.2 fun hh => h (fitsR_iff.1 hh)).symm
  refine ⟨fun c => hb (by simp only at c; omega),fun c1 => ⟨fun c => hb (by simp only at c; omega),fun c2 => ⟨fun c => hb (by simp only at c; omega),fun c3 => ?_⟩⟩⟩
  simp only at c1 c2 c3
  exact (fitsR_iff.2 ⟨by omega,by omega,by omega⟩).symm

theorem sum_vc (a : List TRes) (h : L20 a) : f52.vc a := by
  have h : a.length ≤ 1048576 := h
  refine ⟨fun y => 0 ≤ y.1 ∧ y.1 ≤ (a.length : Int) ∧ sumFrom y.2.2.2.2 (a.drop y.1.toNat) = sumR a,fun y => a.length - y.1.toNat,⟨by simp only; omega,by simp only; omega,rfl⟩,fun y hy => ?_⟩
  obtain ⟨i,r1,r2,r3,out⟩ := y
  obtain ⟨g0,g1,g2⟩ := hy
  simp only at g0 g1 g2 ⊢
  refine ⟨fun hlt => ⟨g0,hlt,fun c => ?_,fun c => ⟨by omega,by omega,⟨by omega,by omega,?_⟩,by omega⟩⟩,fun hge => ?_⟩
  · rw [← g2,drop_at g0 hlt,sumFrom,if_neg c]
    rfl
  · rw [drop_at g0 hlt,sumFrom,if_pos (Classical.not_not.1 c)] at g2
    exact g2
  · rw [← g2,List.drop_of_length_le (by omega)]
    rfl
theorem f52.ok (a : List TRes) (h : L20 a) : f52.vc a := sum_vc a h
theorem f53.ok (a : List TRes) (h : L20 a) : f53.vc a := sum_vc a h

theorem f27.ok (a : List TJob × ByteArray) (h : used_pre a) : f27.vc a := by
  obtain ⟨l,q⟩ := a
  have h : l.length ≤ 1048576 := h
  refine ⟨fun y => 0 ≤ y.2.1 ∧ y.2.1 ≤ (l.length : Int) ∧ y.1 ++ useL (l.drop y.2.1.toNat) q = useL l q ∧ y.1.length ≤ y.2.1.toNat,fun y => l.length - y.2.1.toNat,⟨by simp only; omega,by simp only; omega,rfl,Nat.le_refl _⟩,fun y hy => ?_⟩
  obtain ⟨out,i,r⟩ := y
  obtain ⟨g0,g1,g2,g3⟩ := hy
  simp only at g0 g1 g2 g3 ⊢
  refine ⟨fun hlt => ⟨g0,hlt,fun c => ⟨by omega,by omega,by omega,⟨by omega,by omega,?_,?_⟩,by omega⟩,fun c => ⟨by omega,by omega,⟨by omega,by omega,?_,by omega⟩,by omega⟩⟩,fun hge => ?_⟩
  · rw [← g2,drop_at g0 hlt,useL_yes c,List.append_assoc]
    rfl
  · rw [List.length_append,List.length_singleton]
    omega
  · rw [← g2,drop_at g0 hlt,useL_no c]
  · rw [List.drop_of_length_le (by omega)] at g2
    have g2 : out = useL l q := by rw [← g2]; exact (List.append_nil _).symm
    refine ⟨by unfold L20; omega,?_⟩
    rw [g2]
    rfl

theorem f28.ok (a : List TJob × ByteArray) (h : used_pre a) : f28.vc a := by
  obtain ⟨l,q⟩ := a
  have h : l.length ≤ 1048576 := h
  refine ⟨fun y => 0 ≤ y.2 ∧ y.2 ≤ (l.length : Int) ∧ y.1 ++ useL (l.drop y.2.toNat) q = useL l q ∧ y.1.length ≤ y.2.toNat,fun y => l.length - y.2.toNat,⟨by simp only; omega,by simp only; omega,rfl,Nat.le_refl _⟩,fun y hy => ?_⟩
  obtain ⟨out,i⟩ := y
  obtain ⟨g0,g1,g2,g3⟩ := hy
  simp only at g0 g1 g2 g3 ⊢
  refine ⟨fun hlt => ⟨g0,hlt,fun c => ⟨g0,hlt,by omega,by omega,by omega,⟨by omega,by omega,?_,?_⟩,by omega⟩,fun c => ⟨by omega,by omega,⟨by omega,by omega,?_,by omega⟩,by omega⟩⟩,fun hge => ?_⟩
  · rw [← g2,drop_at g0 hlt,useL_yes c,List.append_assoc]
    rfl
  · rw [List.length_append,List.length_singleton]
    omega
  · rw [← g2,drop_at g0 hlt,useL_no c]
  · rw [List.drop_of_length_le (by omega)] at g2
    have g2 : out = useL l q := by rw [← g2]; exact (List.append_nil _).symm
    refine ⟨by unfold L20; omega,?_⟩
    rw [g2]
    rfl

theorem beqT {a b : ByteArray} : (a.toList == b.toList) = decide (a = b) := by
  rw [Bool.eq_iff_iff,beq_iff_eq,toList_inj,decide_eq_true_eq]

theorem f57.ok (a : TJob × ByteArray) (_ : True) : f57.vc a := beqT
theorem f33.ok (a : TJob) (_ : True) : f33.vc a := beqT

theorem find_hit {l : List TJob} {q : ByteArray} {i : Int} (g0 : 0 ≤ i) (hlt : i < (l.length : Int)) (hp : namedR (at_ l i,q) = true) (h : ∀ k,k < i.toNat → namedR (l.getD k default,q) = false) : i = findR (l,q) := by
  unfold findR
  simp only
  rw [findIdx_some (p := fun j => namedR (j,q)) (k := i.toNat) (by omega) hp h]
  simp only
  omega
theorem find_miss {l : List TJob} {q : ByteArray} (h : ∀ k,k < l.length → namedR (l.getD k default,q) = false) : (-1 : Int) = findR (l,q) := by
  unfold findR
  simp only
  rw [findIdx_none (p := fun j => namedR (j,q)) h]

theorem f56.ok (a : List TJob × ByteArray) (h : find_pre a) : f56.vc a := by
  obtain ⟨l,q⟩ := a
  have h : l.length ≤ 1048576 := h
  refine ⟨fun y => 0 ≤ y ∧ y ≤ (l.length : Int) ∧ ∀ k,k < y.toNat → namedR (l.getD k default,q) = false,fun y => l.length - y.toNat,⟨by omega,by omega,fun k hk => by simp at hk⟩,fun y hy => ?_⟩
  obtain ⟨g0,g1,g2⟩ := hy
  refine ⟨fun hlt => ⟨g0,hlt,fun c => find_hit g0 hlt c g2,fun c => ⟨by simp only at hlt; omega,by simp only at hlt; omega,⟨by omega,by simp only at hlt; omega,fun k hk => ?_⟩,by simp only at hlt ⊢; omega⟩⟩,fun hge => find_miss fun k hk => g2 k (by simp only at hge; omega)⟩
  by_cases he : k = y.toNat
  · subst he
    exact Bool.eq_false_iff.2 c
  · exact g2 k (by omega)

theorem f32.ok (a : List TJob × ByteArray) (h : find_pre a) : f32.vc a := by
  obtain ⟨l,q⟩ := a
  have h : l.length ≤ 1048576 := h
  refine ⟨fun y => 0 ≤ y ∧ y ≤ (l.length : Int) ∧ ∀ k,k < y.toNat → namedR (l.getD k default,q) = false,fun y => l.length - y.toNat,⟨by omega,by omega,fun k hk => by simp at hk⟩,fun y hy => ?_⟩
  obtain ⟨g0,g1,g2⟩ := hy
  refine ⟨fun hlt => ⟨g0,hlt,fun c => find_hit g0 hlt (by unfold namedR; simpa using c) g2,fun c => ⟨by simp only at hlt; omega,by simp only at hlt; omega,⟨by omega,by simp only at hlt; omega,fun k hk => ?_⟩,by simp only at hlt ⊢; omega⟩⟩,fun hge => find_miss fun k hk => g2 k (by simp only at hge; omega)⟩
  by_cases he : k = y.toNat
  · subst he
    show decide ((at_ l y).1.1 = q) = false
    rw [decide_eq_false_iff_not]
    exact c
  · exact g2 k (by omega)

theorem f31.ok (a : List TJob × ByteArray) (h : find_pre a) : f31.vc a := ⟨h,rfl⟩

end Go.Abs
