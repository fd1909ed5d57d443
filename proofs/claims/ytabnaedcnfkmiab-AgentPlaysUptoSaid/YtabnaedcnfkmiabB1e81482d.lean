/- Functions, and what the code asks of them: PQuota. -/
import Derived.KernelRfl
import Derived.Test.YtabnaedcnfkmiabB420da234
import Derived.Test.YtabnaedcnfkmiabBdde4a7e0
import Derived.Test.YtabnaedcnfkmiabB2f180270
set_option linter.unusedVariables false
set_option linter.unusedSimpArgs false
/- What queues bear. -/
namespace Go.Abs
open Go

def addV (a b : TRes) : TRes := (a.1 + b.1,a.2.1 + b.2.1,a.2.2 + b.2.2)
def subV (a b : TRes) : TRes := (a.1 - b.1,a.2.1 - b.2.1,a.2.2 - b.2.2)
def zeroR : TRes := (0,0,0)
def bothR (a : TRes × TRes × Int) : TRes × Int :=
  if ¬ (rightB a.1 = true ∧ rightB a.2.1 = true) then (zeroR,1) else
  if rightB (if a.2.2 = 1 then addV a.1 a.2.1 else subV a.1 a.2.1) = true then (if a.2.2 = 1 then addV a.1 a.2.1 else subV a.1 a.2.1,0) else (zeroR,6)
def both_pre (a : TRes × TRes × Int) : Prop := a.2.2 = 1 ∨ a.2.2 = -1
def addR (a : TRes × TRes) : TRes × Int := bothR (a.1,a.2,1)
def fitsR (a : TRes × TRes) : Bool := decide (a.1.1 ≤ a.2.1 ∧ a.1.2.1 ≤ a.2.2.1 ∧ a.1.2.2 ≤ a.2.2.2)
def sumFrom : TRes → List TRes → TRes × Int
  | out,[] => (out,0)
  | out,a :: l => if (addR (out,a)).2 = 0 then sumFrom (addR (out,a)).1 l else (zeroR,(addR (out,a)).2)
def sumR (l : List TRes) : TRes × Int := sumFrom zeroR l

def L20 {α : Type} (l : List α) : Prop := l.length ≤ 1048576
end Go.Abs

/- What queues bear: plain facts. -/
namespace Go.Abs
open Go

theorem drop_at {α : Type} [Inhabited α] {l : List α} {i : Int} (h0 : 0 ≤ i) (h : i < (l.length : Int)) : l.drop i.toNat = at_ l i :: l.drop (i + 1).toNat := by
  have hi : i.toNat < l.length := by omega
  rw [List.drop_eq_getElem_cons hi,show (i + 1).toNat = i.toNat + 1 from by omega]
  unfold at_
  rw [List.getD_eq_getElem?_getD,List.getElem?_eq_getElem hi]
  rfl

theorem fitsR_iff {a b : TRes} : fitsR (a,b) = true ↔ a.1 ≤ b.1 ∧ a.2.1 ≤ b.2.1 ∧ a.2.2 ≤ b.2.2 := by
  unfold fitsR
  simp only [decide_eq_true_eq]

end Go.Abs

-- interregnum/res.both
namespace Go.Abs
open Go
def f69.args (a : T_ar3_i64 × T_ar3_i64 × Int) : List D := [.agg [.int .i64 a.1.1,.int .i64 a.1.2.1,.int .i64 a.1.2.2],.agg [.int .i64 a.2.1.1,.int .i64 a.2.1.2.1,.int .i64 a.2.1.2.2],.int .i64 a.2.2]
def f69.blks (a : T_ar3_i64 × T_ar3_i64 × Int) : List (List D) := []
def f69.res (a : T_ar3_i64 × T_ar3_i64 × Int) : List D := [.agg [.int .i64 (((bothR a).1).1),.int .i64 (((bothR a).1).2.1),.int .i64 (((bothR a).1).2.2)],.int .i64 ((bothR a).2)]
def f69.blks' (a : T_ar3_i64 × T_ar3_i64 × Int) : List (List D) := []
def f69.C : Contract := FnC f69.args f69.blks (fun a => both_pre a) f69.res f69.blks'
end Go.Abs

/- interregnum/res.both -/
namespace Go.Abs
open Go
set_option linter.unusedVariables false
def f69.kills (a : T_ar3_i64 × T_ar3_i64 × Int) : List Hint := [.unroll 4 [0,1,4,5,7,8,9,10,11,12,13,14,15,16,17,18,21,22,23,24,25,26,27,28,29,30,31,32,33,34,35,36,37] [0,2] []]
def f69.cuts (a : T_ar3_i64 × T_ar3_i64 × Int) : List (Nat × Σ β : Type,β→Tm) := []
def f69.af (a : T_ar3_i64 × T_ar3_i64 × Int) : AF := AF.mk (.seq (.region [⟨(some 3),0,.box,[.t 0],none⟩,
 ⟨(some 4),1,.box,[.t 1],none⟩,
 ⟨(some 6),2,(.alloc [.int .i64 (0),.int .i64 (0),.int .i64 (0)]),[],none⟩,
 ⟨(some 7),6,.move,[.c (.int .i64 (0))],none⟩])
 (.seq (.seq (.region [⟨(some 10),7,(.load true 3),[.t 3],none⟩,
 ⟨(some 11),8,(.call false 49),[.t 10],none⟩,
 ⟨(some 12),12,(.un .not),[.t 11],none⟩,
 ⟨(some 13),13,.move,[.t 12],none⟩,
 ⟨(some 14),14,(.load true 3),[.t 4],(some (13,false))⟩,
 ⟨(some 15),15,(.call false 49),[.t 14],(some (13,false))⟩,
 ⟨(some 16),19,(.un .not),[.t 15],(some (13,false))⟩,
 ⟨(some 17),20,.pick,[.t 13,.c (.bool true),.t 16],none⟩])
 (.cond (.t 17) (.seq (.region [⟨(some 18),21,(.build [.int .i64 (0),.int .i64 (0),.int .i64 (0)] []),[],none⟩,
 ⟨none,22,(.store 3),[.t 6,.t 18],none⟩,
 ⟨(some 7),23,.move,[.c (.int .i64 (1))],none⟩])
 (.ret)) (.skip)))
 (.seq (.seq (.region [⟨(some 19),24,(.load true 3),[.t 4],none⟩,
 ⟨(some 20),25,.move,[.c (.int .i64 (0))],none⟩])
 (.block 0 (.loop 4 [0,1,4,5,7,8,9,10,11,12,13,14,15,16,17,18,21,22,23,24,25,26,27,28,29,30,31,32,33,34,35,36,37] [0,2] [] 26 42 (.seq (.region [⟨(some 21),26,(.bin .lss),[.t 20,.c (.int .i64 (3))],none⟩])
 (.seq (.cond (.t 21) (.skip) (.exit 0))
 (.seq (.block 1 (.seq (.region [⟨(some 22),27,.move,[.t 20],none⟩,
 ⟨(some 23),28,(.indexArr false 1 3),[.t 19,.t 20],none⟩,
 ⟨(some 8),29,.move,[.t 22],none⟩,
 ⟨(some 9),30,.move,[.t 23],none⟩])
 (.region [⟨(some 24),31,.move,[.t 8],none⟩,
 ⟨(some 25),32,(.indexAddr 1 (some 3)),[.t 3,.t 24],none⟩,
 ⟨(some 26),33,(.load false 1),[.t 25],none⟩,
 ⟨(some 27),34,.move,[.t 2],none⟩,
 ⟨(some 28),35,.move,[.t 9],none⟩,
 ⟨(some 29),36,(.bin .mul),[.t 27,.t 28],none⟩,
 ⟨(some 30),37,(.bin .add),[.t 26,.t 29],none⟩,
 ⟨(some 31),38,(.indexAddr 1 (some 3)),[.t 3,.t 24],none⟩,
 ⟨none,39,(.store 1),[.t 31,.t 30],none⟩])))
 (.region [⟨(some 32),40,(.bin .add),[.t 20,.c (.int .i64 (1))],none⟩,
 ⟨(some 20),41,.move,[.t 32],none⟩])))))))
 (.seq (.seq (.region [⟨(some 33),42,(.load true 3),[.t 3],none⟩,
 ⟨(some 34),43,(.call false 49),[.t 33],none⟩,
 ⟨(some 35),47,(.un .not),[.t 34],none⟩])
 (.cond (.t 35) (.seq (.region [⟨(some 36),48,(.build [.int .i64 (0),.int .i64 (0),.int .i64 (0)] []),[],none⟩,
 ⟨none,49,(.store 3),[.t 6,.t 36],none⟩,
 ⟨(some 7),50,.move,[.c (.int .i64 (6))],none⟩])
 (.ret)) (.skip)))
 (.seq (.region [⟨(some 37),51,(.load true 3),[.t 3],none⟩,
 ⟨none,52,(.store 3),[.t 6,.t 37],none⟩,
 ⟨(some 7),53,.move,[.c (.int .i64 (0))],none⟩])
 (.ret))))))
 [.cell 6 true 3,.tmp 7] 0 35
def f69.env : Env := [(49,f49.C)]
def f69.tree (a : T_ar3_i64 × T_ar3_i64 × Int) : Prop := ∃ c1 : T_ar3_i64,(a.1.1 = c1.1)∧(a.1.2.1 = c1.2.1)∧(a.1.2.2 = c1.2.2)∧True∧Br (!(rightB c1)) (((0 : Int) = (((bothR a).1).1))∧((0 : Int) = (((bothR a).1).2.1))∧((0 : Int) = (((bothR a).1).2.2))∧((1 : Int) = ((bothR a).2))∧True) (∃ c5 : T_ar3_i64,(a.2.1.1 = c5.1)∧(a.2.1.2.1 = c5.2.1)∧(a.2.1.2.2 = c5.2.2)∧True∧Br (!(rightB c5)) (((0 : Int) = (((bothR a).1).1))∧((0 : Int) = (((bothR a).1).2.1))∧((0 : Int) = (((bothR a).1).2.2))∧((1 : Int) = ((bothR a).2))∧True) (Let (IntKind.i64.wrap (a.2.2 * a.2.1.1)) (fun v9 : Int => Let (IntKind.i64.wrap (a.1.1 + v9)) (fun v10 : Int => Let (IntKind.i64.wrap (a.2.2 * a.2.1.2.1)) (fun v11 : Int => Let (IntKind.i64.wrap (a.1.2.1 + v11)) (fun v12 : Int => Let (IntKind.i64.wrap (a.2.2 * a.2.1.2.2)) (fun v13 : Int => Let (IntKind.i64.wrap (a.1.2.2 + v13)) (fun v14 : Int => ∃ c15 : T_ar3_i64,(v10 = c15.1)∧(v12 = c15.2.1)∧(v14 = c15.2.2)∧True∧Br (!(rightB c15)) (((0 : Int) = (((bothR a).1).1))∧((0 : Int) = (((bothR a).1).2.1))∧((0 : Int) = (((bothR a).1).2.2))∧((6 : Int) = ((bothR a).2))∧True) ((v10 = (((bothR a).1).1))∧(v12 = (((bothR a).1).2.1))∧(v14 = (((bothR a).1).2.2))∧((0 : Int) = ((bothR a).2))∧True)))))))))
def f69.vc (a : T_ar3_i64 × T_ar3_i64 × Int) : Prop := ((¬ ((rightB (a.1)) = true)→((((0 : Int),(0 : Int),(0 : Int)),(1 : Int)) = bothR a))∧(¬ (¬ ((rightB (a.1)) = true))→((¬ ((rightB (a.2.1)) = true)→((((0 : Int),(0 : Int),(0 : Int)),(1 : Int)) = bothR a))∧(¬ (¬ ((rightB (a.2.1)) = true))→(-9223372036854775808≤(a.2.2 * a.2.1.1)∧(a.2.2 * a.2.1.1)≤9223372036854775807∧(-9223372036854775808≤(a.1.1 + (a.2.2 * a.2.1.1))∧(a.1.1 + (a.2.2 * a.2.1.1))≤9223372036854775807∧(-9223372036854775808≤(a.2.2 * a.2.1.2.1)∧(a.2.2 * a.2.1.2.1)≤9223372036854775807∧(-9223372036854775808≤(a.1.2.1 + (a.2.2 * a.2.1.2.1))∧(a.1.2.1 + (a.2.2 * a.2.1.2.1))≤9223372036854775807∧(-9223372036854775808≤(a.2.2 * a.2.1.2.2)∧(a.2.2 * a.2.1.2.2)≤9223372036854775807∧(-9223372036854775808≤(a.1.2.2 + (a.2.2 * a.2.1.2.2))∧(a.1.2.2 + (a.2.2 * a.2.1.2.2))≤9223372036854775807∧((¬ ((rightB ((a.1.1 + (a.2.2 * a.2.1.1)),(a.1.2.1 + (a.2.2 * a.2.1.2.1)),(a.1.2.2 + (a.2.2 * a.2.1.2.2)))) = true)→((((0 : Int),(0 : Int),(0 : Int)),(6 : Int)) = bothR a))∧(¬ (¬ ((rightB ((a.1.1 + (a.2.2 * a.2.1.1)),(a.1.2.1 + (a.2.2 * a.2.1.2.1)),(a.1.2.2 + (a.2.2 * a.2.1.2.2)))) = true))→((((a.1.1 + (a.2.2 * a.2.1.1)),(a.1.2.1 + (a.2.2 * a.2.1.2.1)),(a.1.2.2 + (a.2.2 * a.2.1.2.2))),(0 : Int)) = bothR a)))))))))))))
set_option maxRecDepth 100000 in
set_option maxHeartbeats 2000000 in
theorem f69.of (a : T_ar3_i64 × T_ar3_i64 × Int) (h : f69.vc a) : f69.tree a := ⟨a.1,⟨rfl,⟨rfl,⟨rfl,⟨trivial,br h (Cnd.not Cnd.b) (fun h2 k44 => ⟨(congrArg (fun x : T_ar3_i64 × Int => x.1.1) k44 :),⟨(congrArg (fun x : T_ar3_i64 × Int => x.1.2.1) k44 :),⟨(congrArg (fun x : T_ar3_i64 × Int => x.1.2.2) k44 :),⟨(congrArg (fun x : T_ar3_i64 × Int => x.2) k44 :),trivial⟩⟩⟩⟩) (fun h3 k45 => ⟨a.2.1,⟨rfl,⟨rfl,⟨rfl,⟨trivial,br k45 (Cnd.not Cnd.b) (fun h6 k41 => ⟨(congrArg (fun x : T_ar3_i64 × Int => x.1.1) k41 :),⟨(congrArg (fun x : T_ar3_i64 × Int => x.1.2.1) k41 :),⟨(congrArg (fun x : T_ar3_i64 × Int => x.1.2.2) k41 :),⟨(congrArg (fun x : T_ar3_i64 × Int => x.2) k41 :),trivial⟩⟩⟩⟩) (fun h7 k42 => wrapK.i64 k42 (fun h38 h39 k40 => wrapK.i64 k40 (fun h35 h36 k37 => wrapK.i64 k37 (fun h32 h33 k34 => wrapK.i64 k34 (fun h29 h30 k31 => wrapK.i64 k31 (fun h26 h27 k28 => wrapK.i64 k28 (fun h23 h24 k25 => ⟨((a.1.1 + (a.2.2 * a.2.1.1)),(a.1.2.1 + (a.2.2 * a.2.1.2.1)),(a.1.2.2 + (a.2.2 * a.2.1.2.2))),⟨rfl,⟨rfl,⟨rfl,⟨trivial,br k25 (Cnd.not Cnd.b) (fun h16 k20 => ⟨(congrArg (fun x : T_ar3_i64 × Int => x.1.1) k20 :),⟨(congrArg (fun x : T_ar3_i64 × Int => x.1.2.1) k20 :),⟨(congrArg (fun x : T_ar3_i64 × Int => x.1.2.2) k20 :),⟨(congrArg (fun x : T_ar3_i64 × Int => x.2) k20 :),trivial⟩⟩⟩⟩) (fun h17 k21 => ⟨(congrArg (fun x : T_ar3_i64 × Int => x.1.1) k21 :),⟨(congrArg (fun x : T_ar3_i64 × Int => x.1.2.1) k21 :),⟨(congrArg (fun x : T_ar3_i64 × Int => x.1.2.2) k21 :),⟨(congrArg (fun x : T_ar3_i64 × Int => x.2) k21 :),trivial⟩⟩⟩⟩)⟩⟩⟩⟩⟩)))))))⟩⟩⟩⟩⟩)⟩⟩⟩⟩⟩
theorem f69.eq (a : T_ar3_i64 × T_ar3_i64 × Int) : (f69.af a).gives f69.env (f69.args a) (f69.blks a) (f69.res a) (f69.blks' a) = f69.tree a := by kernel_rfl
end Go.Abs

-- interregnum/res.Add
namespace Go.Abs
open Go
def f54.args (a : T_ar3_i64 × T_ar3_i64) : List D := [.agg [.int .i64 a.1.1,.int .i64 a.1.2.1,.int .i64 a.1.2.2],.agg [.int .i64 a.2.1,.int .i64 a.2.2.1,.int .i64 a.2.2.2]]
def f54.blks (a : T_ar3_i64 × T_ar3_i64) : List (List D) := []
def f54.res (a : T_ar3_i64 × T_ar3_i64) : List D := [.agg [.int .i64 (((addR a).1).1),.int .i64 (((addR a).1).2.1),.int .i64 (((addR a).1).2.2)],.int .i64 ((addR a).2)]
def f54.blks' (a : T_ar3_i64 × T_ar3_i64) : List (List D) := []
def f54.C : Contract := FnC f54.args f54.blks (fun _ => True) f54.res f54.blks'
end Go.Abs

/- interregnum/res.Add -/
namespace Go.Abs
open Go
set_option linter.unusedVariables false
def f54.kills (a : T_ar3_i64 × T_ar3_i64) : List Hint := []
def f54.cuts (a : T_ar3_i64 × T_ar3_i64) : List (Nat × Σ β : Type,β→Tm) := []
def f54.af (a : T_ar3_i64 × T_ar3_i64) : AF := AF.mk (.seq (.region [⟨(some 2),0,.box,[.t 0],none⟩,
 ⟨(some 3),1,.box,[.t 1],none⟩,
 ⟨(some 4),2,(.alloc [.int .i64 (0),.int .i64 (0),.int .i64 (0)]),[],none⟩,
 ⟨(some 5),6,.move,[.c (.int .i64 (0))],none⟩])
 (.seq (.region [⟨(some 6),7,(.load true 3),[.t 2],none⟩,
 ⟨(some 7),8,(.load true 3),[.t 3],none⟩,
 ⟨(some 8),9,(.call false 69),[.t 6,.t 7,.c (.int .i64 (1))],none⟩,
 ⟨(some 9),13,(.extract 0),[.t 8],none⟩,
 ⟨(some 10),14,(.extract 1),[.t 8],none⟩,
 ⟨none,15,(.store 3),[.t 4,.t 9],none⟩,
 ⟨(some 5),16,.move,[.t 10],none⟩])
 (.ret)))
 [.cell 4 true 3,.tmp 5] 0 9
def f54.env : Env := [(69,f69.C)]
def f54.tree (a : T_ar3_i64 × T_ar3_i64) : Prop := ∃ c1 : T_ar3_i64 × T_ar3_i64 × Int,(a.1.1 = c1.1.1)∧(a.1.2.1 = c1.1.2.1)∧(a.1.2.2 = c1.1.2.2)∧(a.2.1 = c1.2.1.1)∧(a.2.2.1 = c1.2.1.2.1)∧(a.2.2.2 = c1.2.1.2.2)∧((1 : Int) = c1.2.2)∧(both_pre c1)∧((((bothR c1).1).1) = (((addR a).1).1))∧((((bothR c1).1).2.1) = (((addR a).1).2.1))∧((((bothR c1).1).2.2) = (((addR a).1).2.2))∧(((bothR c1).2) = ((addR a).2))∧True
def f54.vc (a : T_ar3_i64 × T_ar3_i64) : Prop := (both_pre (a.1,a.2,(1 : Int))∧((((bothR (a.1,a.2,(1 : Int))).1),(bothR (a.1,a.2,(1 : Int))).2) = addR a))
set_option maxRecDepth 100000 in
set_option maxHeartbeats 2000000 in
theorem f54.of (a : T_ar3_i64 × T_ar3_i64) (h : f54.vc a) : f54.tree a := ⟨(a.1,a.2,(1 : Int)),⟨rfl,⟨rfl,⟨rfl,⟨rfl,⟨rfl,⟨rfl,⟨rfl,⟨h.1,⟨(congrArg (fun x : T_ar3_i64 × Int => x.1.1) h.2 :),⟨(congrArg (fun x : T_ar3_i64 × Int => x.1.2.1) h.2 :),⟨(congrArg (fun x : T_ar3_i64 × Int => x.1.2.2) h.2 :),⟨(congrArg (fun x : T_ar3_i64 × Int => x.2) h.2 :),trivial⟩⟩⟩⟩⟩⟩⟩⟩⟩⟩⟩⟩⟩
theorem f54.eq (a : T_ar3_i64 × T_ar3_i64) : (f54.af a).gives f54.env (f54.args a) (f54.blks a) (f54.res a) (f54.blks' a) = f54.tree a := by kernel_rfl
end Go.Abs

-- interregnum/interregnumref03.Add
namespace Go.Abs
open Go
def f68.args (a : T_ar3_i64 × T_ar3_i64) : List D := [.agg [.int .i64 a.1.1,.int .i64 a.1.2.1,.int .i64 a.1.2.2],.agg [.int .i64 a.2.1,.int .i64 a.2.2.1,.int .i64 a.2.2.2]]
def f68.blks (a : T_ar3_i64 × T_ar3_i64) : List (List D) := []
def f68.res (a : T_ar3_i64 × T_ar3_i64) : List D := [.agg [.int .i64 (((addR a).1).1),.int .i64 (((addR a).1).2.1),.int .i64 (((addR a).1).2.2)],.int .i64 ((addR a).2)]
def f68.blks' (a : T_ar3_i64 × T_ar3_i64) : List (List D) := []
def f68.C : Contract := FnC f68.args f68.blks (fun _ => True) f68.res f68.blks'
end Go.Abs

/- interregnum/interregnumref03.Add -/
namespace Go.Abs
open Go
set_option linter.unusedVariables false
def f68.kills (a : T_ar3_i64 × T_ar3_i64) : List Hint := [.unroll 4 [0,1,5,7,8,9,10,11,12,13,14,15,16,17,18,19,20,21,22,23,24,25,26,27,28,29,30,31,32,33] [0,1,2] []]
def f68.cuts (a : T_ar3_i64 × T_ar3_i64) : List (Nat × Σ β : Type,β→Tm) := []
def f68.af (a : T_ar3_i64 × T_ar3_i64) : AF := AF.mk (.seq (.region [⟨(some 2),0,.box,[.t 0],none⟩,
 ⟨(some 3),1,.box,[.t 1],none⟩,
 ⟨(some 4),2,(.alloc [.int .i64 (0),.int .i64 (0),.int .i64 (0)]),[],none⟩,
 ⟨(some 5),6,.move,[.c (.int .i64 (0))],none⟩])
 (.seq (.seq (.region [⟨(some 7),7,(.load true 3),[.t 2],none⟩,
 ⟨(some 8),8,(.call false 55),[.t 7],none⟩,
 ⟨(some 9),12,(.un .not),[.t 8],none⟩,
 ⟨(some 10),13,.move,[.t 9],none⟩,
 ⟨(some 11),14,(.load true 3),[.t 3],(some (10,false))⟩,
 ⟨(some 12),15,(.call false 55),[.t 11],(some (10,false))⟩,
 ⟨(some 13),19,(.un .not),[.t 12],(some (10,false))⟩,
 ⟨(some 14),20,.pick,[.t 10,.c (.bool true),.t 13],none⟩])
 (.cond (.t 14) (.seq (.region [⟨(some 15),21,(.build [.int .i64 (0),.int .i64 (0),.int .i64 (0)] []),[],none⟩,
 ⟨none,22,(.store 3),[.t 4,.t 15],none⟩,
 ⟨(some 5),23,.move,[.c (.int .i64 (1))],none⟩])
 (.ret)) (.skip)))
 (.seq (.seq (.region [⟨(some 6),24,.move,[.c (.int .i64 (0))],none⟩])
 (.block 0 (.loop 4 [0,1,5,7,8,9,10,11,12,13,14,15,16,17,18,19,20,21,22,23,24,25,26,27,28,29,30,31,32,33] [0,1,2] [] 25 40 (.seq (.seq (.region [⟨(some 16),25,.move,[.t 6],none⟩,
 ⟨(some 17),26,(.bin .lss),[.t 16,.c (.int .i64 (3))],none⟩])
 (.cond (.t 17) (.skip) (.exit 0)))
 (.seq (.block 1 (.region [⟨(some 20),27,.move,[.t 6],none⟩,
 ⟨(some 21),28,.move,[.t 6],none⟩,
 ⟨(some 22),29,(.indexAddr 1 (some 3)),[.t 2,.t 21],none⟩,
 ⟨(some 23),30,(.load false 1),[.t 22],none⟩,
 ⟨(some 24),31,.move,[.t 6],none⟩,
 ⟨(some 25),32,(.indexAddr 1 (some 3)),[.t 3,.t 24],none⟩,
 ⟨(some 26),33,(.load false 1),[.t 25],none⟩,
 ⟨(some 27),34,(.bin .add),[.t 23,.t 26],none⟩,
 ⟨(some 28),35,(.indexAddr 1 (some 3)),[.t 2,.t 20],none⟩,
 ⟨none,36,(.store 1),[.t 28,.t 27],none⟩]))
 (.region [⟨(some 18),37,.move,[.t 6],none⟩,
 ⟨(some 19),38,(.bin .add),[.t 18,.c (.int .i64 (1))],none⟩,
 ⟨(some 6),39,.move,[.t 19],none⟩]))))))
 (.seq (.seq (.region [⟨(some 29),40,(.load true 3),[.t 2],none⟩,
 ⟨(some 30),41,(.call false 55),[.t 29],none⟩,
 ⟨(some 31),45,(.un .not),[.t 30],none⟩])
 (.cond (.t 31) (.seq (.region [⟨(some 32),46,(.build [.int .i64 (0),.int .i64 (0),.int .i64 (0)] []),[],none⟩,
 ⟨none,47,(.store 3),[.t 4,.t 32],none⟩,
 ⟨(some 5),48,.move,[.c (.int .i64 (6))],none⟩])
 (.ret)) (.skip)))
 (.seq (.region [⟨(some 33),49,(.load true 3),[.t 2],none⟩,
 ⟨none,50,(.store 3),[.t 4,.t 33],none⟩,
 ⟨(some 5),51,.move,[.c (.int .i64 (0))],none⟩])
 (.ret))))))
 [.cell 4 true 3,.tmp 5] 0 32
def f68.env : Env := [(55,f55.C)]
def f68.tree (a : T_ar3_i64 × T_ar3_i64) : Prop := ∃ c1 : T_ar3_i64,(a.1.1 = c1.1)∧(a.1.2.1 = c1.2.1)∧(a.1.2.2 = c1.2.2)∧True∧Br (!(rightB c1)) (((0 : Int) = (((addR a).1).1))∧((0 : Int) = (((addR a).1).2.1))∧((0 : Int) = (((addR a).1).2.2))∧((1 : Int) = ((addR a).2))∧True) (∃ c5 : T_ar3_i64,(a.2.1 = c5.1)∧(a.2.2.1 = c5.2.1)∧(a.2.2.2 = c5.2.2)∧True∧Br (!(rightB c5)) (((0 : Int) = (((addR a).1).1))∧((0 : Int) = (((addR a).1).2.1))∧((0 : Int) = (((addR a).1).2.2))∧((1 : Int) = ((addR a).2))∧True) (Let (IntKind.i64.wrap (a.1.1 + a.2.1)) (fun v9 : Int => Let (IntKind.i64.wrap (a.1.2.1 + a.2.2.1)) (fun v10 : Int => Let (IntKind.i64.wrap (a.1.2.2 + a.2.2.2)) (fun v11 : Int => ∃ c12 : T_ar3_i64,(v9 = c12.1)∧(v10 = c12.2.1)∧(v11 = c12.2.2)∧True∧Br (!(rightB c12)) (((0 : Int) = (((addR a).1).1))∧((0 : Int) = (((addR a).1).2.1))∧((0 : Int) = (((addR a).1).2.2))∧((6 : Int) = ((addR a).2))∧True) ((v9 = (((addR a).1).1))∧(v10 = (((addR a).1).2.1))∧(v11 = (((addR a).1).2.2))∧((0 : Int) = ((addR a).2))∧True))))))
def f68.vc (a : T_ar3_i64 × T_ar3_i64) : Prop := ((¬ ((rightB (a.1)) = true)→((((0 : Int),(0 : Int),(0 : Int)),(1 : Int)) = addR a))∧(¬ (¬ ((rightB (a.1)) = true))→((¬ ((rightB (a.2)) = true)→((((0 : Int),(0 : Int),(0 : Int)),(1 : Int)) = addR a))∧(¬ (¬ ((rightB (a.2)) = true))→(-9223372036854775808≤(a.1.1 + a.2.1)∧(a.1.1 + a.2.1)≤9223372036854775807∧(-9223372036854775808≤(a.1.2.1 + a.2.2.1)∧(a.1.2.1 + a.2.2.1)≤9223372036854775807∧(-9223372036854775808≤(a.1.2.2 + a.2.2.2)∧(a.1.2.2 + a.2.2.2)≤9223372036854775807∧((¬ ((rightB ((a.1.1 + a.2.1),(a.1.2.1 + a.2.2.1),(a.1.2.2 + a.2.2.2))) = true)→((((0 : Int),(0 : Int),(0 : Int)),(6 : Int)) = addR a))∧(¬ (¬ ((rightB ((a.1.1 + a.2.1),(a.1.2.1 + a.2.2.1),(a.1.2.2 + a.2.2.2))) = true))→((((a.1.1 + a.2.1),(a.1.2.1 + a.2.2.1),(a.1.2.2 + a.2.2.2)),(0 : Int)) = addR a))))))))))
set_option maxRecDepth 100000 in
set_option maxHeartbeats 2000000 in
theorem f68.of (a : T_ar3_i64 × T_ar3_i64) (h : f68.vc a) : f68.tree a := ⟨a.1,⟨rfl,⟨rfl,⟨rfl,⟨trivial,br h (Cnd.not Cnd.b) (fun h2 k32 => ⟨(congrArg (fun x : T_ar3_i64 × Int => x.1.1) k32 :),⟨(congrArg (fun x : T_ar3_i64 × Int => x.1.2.1) k32 :),⟨(congrArg (fun x : T_ar3_i64 × Int => x.1.2.2) k32 :),⟨(congrArg (fun x : T_ar3_i64 × Int => x.2) k32 :),trivial⟩⟩⟩⟩) (fun h3 k33 => ⟨a.2,⟨rfl,⟨rfl,⟨rfl,⟨trivial,br k33 (Cnd.not Cnd.b) (fun h6 k29 => ⟨(congrArg (fun x : T_ar3_i64 × Int => x.1.1) k29 :),⟨(congrArg (fun x : T_ar3_i64 × Int => x.1.2.1) k29 :),⟨(congrArg (fun x : T_ar3_i64 × Int => x.1.2.2) k29 :),⟨(congrArg (fun x : T_ar3_i64 × Int => x.2) k29 :),trivial⟩⟩⟩⟩) (fun h7 k30 => wrapK.i64 k30 (fun h26 h27 k28 => wrapK.i64 k28 (fun h23 h24 k25 => wrapK.i64 k25 (fun h20 h21 k22 => ⟨((a.1.1 + a.2.1),(a.1.2.1 + a.2.2.1),(a.1.2.2 + a.2.2.2)),⟨rfl,⟨rfl,⟨rfl,⟨trivial,br k22 (Cnd.not Cnd.b) (fun h13 k17 => ⟨(congrArg (fun x : T_ar3_i64 × Int => x.1.1) k17 :),⟨(congrArg (fun x : T_ar3_i64 × Int => x.1.2.1) k17 :),⟨(congrArg (fun x : T_ar3_i64 × Int => x.1.2.2) k17 :),⟨(congrArg (fun x : T_ar3_i64 × Int => x.2) k17 :),trivial⟩⟩⟩⟩) (fun h14 k18 => ⟨(congrArg (fun x : T_ar3_i64 × Int => x.1.1) k18 :),⟨(congrArg (fun x : T_ar3_i64 × Int => x.1.2.1) k18 :),⟨(congrArg (fun x : T_ar3_i64 × Int => x.1.2.2) k18 :),⟨(congrArg (fun x : T_ar3_i64 × Int => x.2) k18 :),trivial⟩⟩⟩⟩)⟩⟩⟩⟩⟩))))⟩⟩⟩⟩⟩)⟩⟩⟩⟩⟩
theorem f68.eq (a : T_ar3_i64 × T_ar3_i64) : (f68.af a).gives f68.env (f68.args a) (f68.blks a) (f68.res a) (f68.blks' a) = f68.tree a := by kernel_rfl
end Go.Abs

-- interregnum/res.Fits
namespace Go.Abs
open Go
def f34.args (a : T_ar3_i64 × T_ar3_i64) : List D := [.agg [.int .i64 a.1.1,.int .i64 a.1.2.1,.int .i64 a.1.2.2],.agg [.int .i64 a.2.1,.int .i64 a.2.2.1,.int .i64 a.2.2.2]]
def f34.blks (a : T_ar3_i64 × T_ar3_i64) : List (List D) := []
def f34.res (a : T_ar3_i64 × T_ar3_i64) : List D := [.bool (fitsR a)]
def f34.blks' (a : T_ar3_i64 × T_ar3_i64) : List (List D) := []
def f34.C : Contract := FnC f34.args f34.blks (fun _ => True) f34.res f34.blks'
end Go.Abs

/- interregnum/res.Fits -/
namespace Go.Abs
open Go
set_option linter.unusedVariables false
def f34.kills (a : T_ar3_i64 × T_ar3_i64) : List Hint := [.unroll 4 [0,1,2,4,5,6,9,10,11,12,13,14,15,16,17] [1] []]
def f34.cuts (a : T_ar3_i64 × T_ar3_i64) : List (Nat × Σ β : Type,β→Tm) := []
def f34.af (a : T_ar3_i64 × T_ar3_i64) : AF := AF.mk (.seq (.region [⟨(some 2),0,.box,[.t 0],none⟩,
 ⟨(some 3),1,.box,[.t 1],none⟩,
 ⟨(some 4),2,.move,[.c (.bool false)],none⟩])
 (.seq (.seq (.region [⟨(some 7),3,(.load true 3),[.t 2],none⟩,
 ⟨(some 8),4,.move,[.c (.int .i64 (0))],none⟩])
 (.block 0 (.loop 4 [0,1,2,4,5,6,9,10,11,12,13,14,15,16,17] [1] [] 5 18 (.seq (.region [⟨(some 9),5,(.bin .lss),[.t 8,.c (.int .i64 (3))],none⟩])
 (.seq (.cond (.t 9) (.skip) (.exit 0))
 (.seq (.block 1 (.seq (.region [⟨(some 10),6,.move,[.t 8],none⟩,
 ⟨(some 11),7,(.indexArr false 1 3),[.t 7,.t 8],none⟩,
 ⟨(some 5),8,.move,[.t 10],none⟩,
 ⟨(some 6),9,.move,[.t 11],none⟩])
 (.seq (.region [⟨(some 12),10,.move,[.t 6],none⟩,
 ⟨(some 13),11,.move,[.t 5],none⟩,
 ⟨(some 14),12,(.indexAddr 1 (some 3)),[.t 3,.t 13],none⟩,
 ⟨(some 15),13,(.load false 1),[.t 14],none⟩,
 ⟨(some 16),14,(.bin .gtr),[.t 12,.t 15],none⟩])
 (.cond (.t 16) (.seq (.region [⟨(some 4),15,.move,[.c (.bool false)],none⟩])
 (.ret)) (.skip)))))
 (.region [⟨(some 17),16,(.bin .add),[.t 8,.c (.int .i64 (1))],none⟩,
 ⟨(some 8),17,.move,[.t 17],none⟩])))))))
 (.seq (.region [⟨(some 4),18,.move,[.c (.bool true)],none⟩])
 (.ret))))
 [.tmp 4] 0 16
def f34.env : Env := []
def f34.tree (a : T_ar3_i64 × T_ar3_i64) : Prop := Br (decide (a.2.1 < a.1.1)) ((false = (fitsR a))∧True) (Br (decide (a.2.2.1 < a.1.2.1)) ((false = (fitsR a))∧True) (Br (decide (a.2.2.2 < a.1.2.2)) ((false = (fitsR a))∧True) ((true = (fitsR a))∧True)))
def f34.vc (a : T_ar3_i64 × T_ar3_i64) : Prop := ((a.2.1 < a.1.1→(false = fitsR a))∧(¬ (a.2.1 < a.1.1)→((a.2.2.1 < a.1.2.1→(false = fitsR a))∧(¬ (a.2.2.1 < a.1.2.1)→((a.2.2.2 < a.1.2.2→(false = fitsR a))∧(¬ (a.2.2.2 < a.1.2.2)→(true = fitsR a)))))))
set_option maxRecDepth 100000 in
set_option maxHeartbeats 2000000 in
theorem f34.of (a : T_ar3_i64 × T_ar3_i64) (h : f34.vc a) : f34.tree a := br h Cnd.dec (fun h1 k15 => ⟨k15,trivial⟩) (fun h2 k16 => br k16 Cnd.dec (fun h4 k13 => ⟨k13,trivial⟩) (fun h5 k14 => br k14 Cnd.dec (fun h7 k11 => ⟨k11,trivial⟩) (fun h8 k12 => ⟨k12,trivial⟩)))
theorem f34.eq (a : T_ar3_i64 × T_ar3_i64) : (f34.af a).gives f34.env (f34.args a) (f34.blks a) (f34.res a) (f34.blks' a) = f34.tree a := by kernel_rfl
end Go.Abs

-- interregnum/res.Sum
namespace Go.Abs
open Go
def f52.args (a : List (T_ar3_i64)) : List D := [.slice .ro 3 a.length (gl e_ar3_i64 a)]
def f52.blks (a : List (T_ar3_i64)) : List (List D) := []
def f52.res (a : List (T_ar3_i64)) : List D := [.agg [.int .i64 (((sumR a).1).1),.int .i64 (((sumR a).1).2.1),.int .i64 (((sumR a).1).2.2)],.int .i64 ((sumR a).2)]
def f52.blks' (a : List (T_ar3_i64)) : List (List D) := []
def f52.C : Contract := FnC f52.args f52.blks (fun a => L20 a) f52.res f52.blks'
end Go.Abs

/- interregnum/res.Sum -/
namespace Go.Abs
open Go
set_option linter.unusedVariables false
def f52.kills (a : List (T_ar3_i64)) : List Hint := [.tell (Int × Int × Int × Int × Int × Int × Int) (fun x => ⟨[.dead,.dead,.ptr 0 0,.dead,.ptr 5 0,.dead,.dead,.dead,.dead,.slice .ro 3 a.length (gl e_ar3_i64 a),.int .i64 (a.length : Int),.int .i64 x.1,.dead,.dead,.dead,.dead,.dead,.dead,.dead,.dead,.dead,.dead,.dead,.dead,.dead,.dead,.dead,.dead],[(0,false,[.int .i64 x.2.1,.int .i64 x.2.2.1,.int .i64 x.2.2.2.1]),(5,false,[.int .i64 x.2.2.2.2.1,.int .i64 x.2.2.2.2.2.1,.int .i64 x.2.2.2.2.2.2])],[]⟩)]
def f52.cuts (a : List (T_ar3_i64)) : List (Nat × Σ β : Type,β→Tm) := []
def f52.af (a : List (T_ar3_i64)) : AF := AF.mk (.seq (.region [⟨(some 2),0,(.alloc [.int .i64 (0),.int .i64 (0),.int .i64 (0)]),[],none⟩,
 ⟨(some 3),4,.move,[.c (.int .i64 (0))],none⟩])
 (.seq (.region [⟨(some 4),5,(.alloc [.int .i64 (0),.int .i64 (0),.int .i64 (0)]),[],none⟩])
 (.seq (.seq (.region [⟨(some 9),9,.move,[.t 0],none⟩,
 ⟨(some 10),10,(.len false),[.t 9],none⟩,
 ⟨(some 11),11,.move,[.c (.int .i64 (0))],none⟩])
 (.block 0 (.loopT (Int × Int × Int × Int × Int × Int × Int) (fun x => ⟨[.dead,.dead,.ptr 0 0,.dead,.ptr 5 0,.dead,.dead,.dead,.dead,.slice .ro 3 a.length (gl e_ar3_i64 a),.int .i64 (a.length : Int),.int .i64 x.1,.dead,.dead,.dead,.dead,.dead,.dead,.dead,.dead,.dead,.dead,.dead,.dead,.dead,.dead,.dead,.dead],[(0,false,[.int .i64 x.2.1,.int .i64 x.2.2.1,.int .i64 x.2.2.2.1]),(5,false,[.int .i64 x.2.2.2.2.1,.int .i64 x.2.2.2.2.2.1,.int .i64 x.2.2.2.2.2.2])],[]⟩) 12 45 (.seq (.region [⟨(some 12),12,(.bin .lss),[.t 11,.t 10],none⟩])
 (.seq (.cond (.t 12) (.skip) (.exit 0))
 (.seq (.block 1 (.seq (.region [⟨(some 13),13,(.indexAddr 3 none),[.t 9,.t 11],none⟩,
 ⟨(some 14),14,(.load true 3),[.t 13],none⟩,
 ⟨(some 6),15,(.alloc [.int .i64 (0),.int .i64 (0),.int .i64 (0)]),[],none⟩,
 ⟨none,19,(.store 3),[.t 6,.t 14],none⟩])
 (.seq (.region [⟨(some 16),20,(.load true 3),[.t 4],none⟩,
 ⟨(some 17),21,(.load true 3),[.t 6],none⟩,
 ⟨(some 18),22,(.call false 54),[.t 16,.t 17],none⟩,
 ⟨(some 15),26,.move,[.t 18],none⟩,
 ⟨(some 19),27,(.extract 0),[.t 15],none⟩,
 ⟨(some 20),28,(.extract 1),[.t 15],none⟩,
 ⟨(some 7),29,(.alloc [.int .i64 (0),.int .i64 (0),.int .i64 (0)]),[],none⟩,
 ⟨none,33,(.store 3),[.t 7,.t 19],none⟩,
 ⟨(some 8),34,.move,[.t 20],none⟩])
 (.seq (.seq (.region [⟨(some 21),35,.move,[.t 8],none⟩,
 ⟨(some 22),36,(.bin .neq),[.t 21,.c (.int .i64 (0))],none⟩])
 (.cond (.t 22) (.seq (.region [⟨(some 23),37,(.build [.int .i64 (0),.int .i64 (0),.int .i64 (0)] []),[],none⟩,
 ⟨(some 24),38,.move,[.t 8],none⟩,
 ⟨none,39,(.store 3),[.t 2,.t 23],none⟩,
 ⟨(some 3),40,.move,[.t 24],none⟩])
 (.ret)) (.skip)))
 (.region [⟨(some 25),41,(.load true 3),[.t 7],none⟩,
 ⟨none,42,(.store 3),[.t 4,.t 25],none⟩])))))
 (.region [⟨(some 26),43,(.bin .add),[.t 11,.c (.int .i64 (1))],none⟩,
 ⟨(some 11),44,.move,[.t 26],none⟩])))))))
 (.seq (.region [⟨(some 27),45,(.load true 3),[.t 4],none⟩,
 ⟨none,46,(.store 3),[.t 2,.t 27],none⟩,
 ⟨(some 3),47,.move,[.c (.int .i64 (0))],none⟩])
 (.ret)))))
 [.cell 2 true 3,.tmp 3] 0 27
def f52.env : Env := [(54,f54.C)]
def f52.tree (a : List (T_ar3_i64)) : Prop := ∃ (I2 : (Int × Int × Int × Int × Int × Int × Int)→Prop) (μ3 : (Int × Int × Int × Int × Int × Int × Int)→Nat),(∃ x1 : Int × Int × Int × Int × Int × Int × Int,(a.length = a.length)∧(∀ i,i < a.length→DEqs ((gl e_ar3_i64 a) i) ((gl e_ar3_i64 a) i))∧((a.length : Int) = (a.length : Int))∧((0 : Int) = x1.1)∧((0 : Int) = x1.2.1)∧((0 : Int) = x1.2.2.1)∧((0 : Int) = x1.2.2.2.1)∧((0 : Int) = x1.2.2.2.2.1)∧((0 : Int) = x1.2.2.2.2.2.1)∧((0 : Int) = x1.2.2.2.2.2.2)∧I2 x1)∧∀ y4 : Int × Int × Int × Int × Int × Int × Int,I2 y4→(Br (decide (y4.1 < (a.length : Int))) (Br (decide ((0 : Int)≤y4.1) && decide (y4.1 < (a.length : Int))) (∃ c8 : T_ar3_i64 × T_ar3_i64,(y4.2.2.2.2.1 = c8.1.1)∧(y4.2.2.2.2.2.1 = c8.1.2.1)∧(y4.2.2.2.2.2.2 = c8.1.2.2)∧(((at_ a y4.1).1) = c8.2.1)∧(((at_ a y4.1).2.1) = c8.2.2.1)∧(((at_ a y4.1).2.2) = c8.2.2.2)∧True∧Br (((addR c8).2) != (0 : Int)) (((0 : Int) = (((sumR a).1).1))∧((0 : Int) = (((sumR a).1).2.1))∧((0 : Int) = (((sumR a).1).2.2))∧(((addR c8).2) = ((sumR a).2))∧True) (Let (IntKind.i64.wrap (y4.1 + (1 : Int))) (fun v12 : Int => ∃ x13 : Int × Int × Int × Int × Int × Int × Int,(a.length = a.length)∧(∀ i,i < a.length→DEqs ((gl e_ar3_i64 a) i) ((gl e_ar3_i64 a) i))∧((a.length : Int) = (a.length : Int))∧(v12 = x13.1)∧(y4.2.1 = x13.2.1)∧(y4.2.2.1 = x13.2.2.1)∧(y4.2.2.2.1 = x13.2.2.2.1)∧((((addR c8).1).1) = x13.2.2.2.2.1)∧((((addR c8).1).2.1) = x13.2.2.2.2.2.1)∧((((addR c8).1).2.2) = x13.2.2.2.2.2.2)∧I2 x13∧μ3 x13 < μ3 y4))) False) ((y4.2.2.2.2.1 = (((sumR a).1).1))∧(y4.2.2.2.2.2.1 = (((sumR a).1).2.1))∧(y4.2.2.2.2.2.2 = (((sumR a).1).2.2))∧((0 : Int) = ((sumR a).2))∧True))
def f52.vc (a : List (T_ar3_i64)) : Prop := (∃ (I2 : (Int × Int × Int × Int × Int × Int × Int)→Prop) (μ3 : (Int × Int × Int × Int × Int × Int × Int)→Nat),I2 ((0 : Int),(0 : Int),(0 : Int),(0 : Int),(0 : Int),(0 : Int),(0 : Int))∧∀ y4 : Int × Int × Int × Int × Int × Int × Int,I2 y4→((y4.1 < (a.length : Int)→((0 : Int)≤y4.1∧y4.1 < (a.length : Int)∧((¬ ((addR (y4.2.2.2.2,(at_ a y4.1))).2) = (0 : Int)→((((0 : Int),(0 : Int),(0 : Int)),(addR (y4.2.2.2.2,(at_ a y4.1))).2) = sumR a))∧(¬ (¬ ((addR (y4.2.2.2.2,(at_ a y4.1))).2) = (0 : Int))→(-9223372036854775808≤(y4.1 + (1 : Int))∧(y4.1 + (1 : Int))≤9223372036854775807∧(I2 ((y4.1 + (1 : Int)),y4.2.1,y4.2.2.1,y4.2.2.2.1,((addR (y4.2.2.2.2,(at_ a y4.1))).1).1,((addR (y4.2.2.2.2,(at_ a y4.1))).1).2.1,((addR (y4.2.2.2.2,(at_ a y4.1))).1).2.2)∧μ3 ((y4.1 + (1 : Int)),y4.2.1,y4.2.2.1,y4.2.2.2.1,((addR (y4.2.2.2.2,(at_ a y4.1))).1).1,((addR (y4.2.2.2.2,(at_ a y4.1))).1).2.1,((addR (y4.2.2.2.2,(at_ a y4.1))).1).2.2) < μ3 y4))))))∧(¬ (y4.1 < (a.length : Int))→((y4.2.2.2.2,(0 : Int)) = sumR a))))
set_option maxRecDepth 100000 in
set_option maxHeartbeats 2000000 in
theorem f52.of (a : List (T_ar3_i64)) (h : f52.vc a) : f52.tree a := Exists.elim h (fun I2 h25_ => Exists.elim h25_ (fun μ3 h25 => ⟨I2,μ3,⟨((0 : Int),(0 : Int),(0 : Int),(0 : Int),(0 : Int),(0 : Int),(0 : Int)),slK (Rds.self (enc := e_ar3_i64)) (⟨rfl,⟨rfl,⟨rfl,⟨rfl,⟨rfl,⟨rfl,⟨rfl,⟨rfl,h25.1⟩⟩⟩⟩⟩⟩⟩⟩)⟩,fun y4 h27 => br (h25.2 y4 h27) Cnd.dec (fun h5 k23 => chk k23.2.2 Cnd.ix ⟨k23.1,k23.2.1⟩ (fun h7 k21 => ⟨(y4.2.2.2.2,(at_ a y4.1)),⟨rfl,⟨rfl,⟨rfl,⟨rfl,⟨rfl,⟨rfl,⟨trivial,br k21 Cnd.ne (fun h9 k18 => ⟨(congrArg (fun x : T_ar3_i64 × Int => x.1.1) k18 :),⟨(congrArg (fun x : T_ar3_i64 × Int => x.1.2.1) k18 :),⟨(congrArg (fun x : T_ar3_i64 × Int => x.1.2.2) k18 :),⟨(congrArg (fun x : T_ar3_i64 × Int => x.2) k18 :),trivial⟩⟩⟩⟩) (fun h10 k19 => wrapK.i64 k19 (fun h15 h16 k17 => ⟨((y4.1 + (1 : Int)),y4.2.1,y4.2.2.1,y4.2.2.2.1,((addR (y4.2.2.2.2,(at_ a y4.1))).1).1,((addR (y4.2.2.2.2,(at_ a y4.1))).1).2.1,((addR (y4.2.2.2.2,(at_ a y4.1))).1).2.2),slK (Rds.self (enc := e_ar3_i64)) (⟨rfl,⟨rfl,⟨rfl,⟨rfl,⟨rfl,⟨rfl,⟨rfl,⟨rfl,k17⟩⟩⟩⟩⟩⟩⟩⟩)⟩))⟩⟩⟩⟩⟩⟩⟩⟩)) (fun h6 k24 => ⟨(congrArg (fun x : T_ar3_i64 × Int => x.1.1) k24 :),⟨(congrArg (fun x : T_ar3_i64 × Int => x.1.2.1) k24 :),⟨(congrArg (fun x : T_ar3_i64 × Int => x.1.2.2) k24 :),⟨(congrArg (fun x : T_ar3_i64 × Int => x.2) k24 :),trivial⟩⟩⟩⟩)⟩))
theorem f52.eq (a : List (T_ar3_i64)) : (f52.af a).gives f52.env (f52.args a) (f52.blks a) (f52.res a) (f52.blks' a) = f52.tree a := by kernel_rfl
end Go.Abs

-- interregnum/interregnumref03.Sum
namespace Go.Abs
open Go
def f53.args (a : List (T_ar3_i64)) : List D := [.slice .ro 3 a.length (gl e_ar3_i64 a)]
def f53.blks (a : List (T_ar3_i64)) : List (List D) := []
def f53.res (a : List (T_ar3_i64)) : List D := [.agg [.int .i64 (((sumR a).1).1),.int .i64 (((sumR a).1).2.1),.int .i64 (((sumR a).1).2.2)],.int .i64 ((sumR a).2)]
def f53.blks' (a : List (T_ar3_i64)) : List (List D) := []
def f53.C : Contract := FnC f53.args f53.blks (fun a => L20 a) f53.res f53.blks'
end Go.Abs

/- interregnum/interregnumref03.Sum -/
namespace Go.Abs
open Go
set_option linter.unusedVariables false
def f53.kills (a : List (T_ar3_i64)) : List Hint := [.tell (Int × Int × Int × Int × Int × Int × Int) (fun x => ⟨[.slice .ro 3 a.length (gl e_ar3_i64 a),.dead,.ptr 0 0,.dead,.ptr 6 0,.dead,.dead,.dead,.dead,.dead,.int .i64 (a.length : Int),.int .i64 x.1,.dead,.dead,.dead,.dead,.dead,.dead,.dead,.dead,.dead,.dead,.dead,.dead,.dead,.dead,.dead,.dead,.dead,.dead],[(0,false,[.int .i64 x.2.1,.int .i64 x.2.2.1,.int .i64 x.2.2.2.1]),(6,false,[.int .i64 x.2.2.2.2.1,.int .i64 x.2.2.2.2.2.1,.int .i64 x.2.2.2.2.2.2])],[]⟩)]
def f53.cuts (a : List (T_ar3_i64)) : List (Nat × Σ β : Type,β→Tm) := []
def f53.af (a : List (T_ar3_i64)) : AF := AF.mk (.seq (.region [⟨(some 2),0,(.alloc [.int .i64 (0),.int .i64 (0),.int .i64 (0)]),[],none⟩,
 ⟨(some 3),4,.move,[.c (.int .i64 (0))],none⟩])
 (.seq (.region [⟨(some 8),5,(.build [.int .i64 (0),.int .i64 (0),.int .i64 (0)] []),[],none⟩,
 ⟨(some 4),6,(.alloc [.int .i64 (0),.int .i64 (0),.int .i64 (0)]),[],none⟩,
 ⟨none,10,(.store 3),[.t 4,.t 8],none⟩])
 (.seq (.seq (.region [⟨(some 9),11,.move,[.t 0],none⟩,
 ⟨(some 10),12,(.len false),[.t 9],none⟩,
 ⟨(some 11),13,.move,[.c (.int .i64 (0))],none⟩])
 (.block 0 (.loopT (Int × Int × Int × Int × Int × Int × Int) (fun x => ⟨[.slice .ro 3 a.length (gl e_ar3_i64 a),.dead,.ptr 0 0,.dead,.ptr 6 0,.dead,.dead,.dead,.dead,.dead,.int .i64 (a.length : Int),.int .i64 x.1,.dead,.dead,.dead,.dead,.dead,.dead,.dead,.dead,.dead,.dead,.dead,.dead,.dead,.dead,.dead,.dead,.dead,.dead],[(0,false,[.int .i64 x.2.1,.int .i64 x.2.2.1,.int .i64 x.2.2.2.1]),(6,false,[.int .i64 x.2.2.2.2.1,.int .i64 x.2.2.2.2.2.1,.int .i64 x.2.2.2.2.2.2])],[]⟩) 14 45 (.seq (.region [⟨(some 12),14,(.bin .lss),[.t 11,.t 10],none⟩])
 (.seq (.cond (.t 12) (.skip) (.exit 0))
 (.seq (.block 1 (.seq (.region [⟨(some 13),15,.move,[.t 11],none⟩,
 ⟨(some 5),16,.move,[.t 13],none⟩])
 (.seq (.region [⟨(some 15),17,(.load true 3),[.t 4],none⟩,
 ⟨(some 16),18,.move,[.t 0],none⟩,
 ⟨(some 17),19,.move,[.t 5],none⟩,
 ⟨(some 18),20,(.indexAddr 3 none),[.t 16,.t 17],none⟩,
 ⟨(some 19),21,(.load true 3),[.t 18],none⟩,
 ⟨(some 20),22,(.call false 68),[.t 15,.t 19],none⟩,
 ⟨(some 14),26,.move,[.t 20],none⟩,
 ⟨(some 21),27,(.extract 0),[.t 14],none⟩,
 ⟨(some 22),28,(.extract 1),[.t 14],none⟩,
 ⟨(some 6),29,(.alloc [.int .i64 (0),.int .i64 (0),.int .i64 (0)]),[],none⟩,
 ⟨none,33,(.store 3),[.t 6,.t 21],none⟩,
 ⟨(some 7),34,.move,[.t 22],none⟩])
 (.seq (.seq (.region [⟨(some 23),35,.move,[.t 7],none⟩,
 ⟨(some 24),36,(.bin .neq),[.t 23,.c (.int .i64 (0))],none⟩])
 (.cond (.t 24) (.seq (.region [⟨(some 25),37,(.build [.int .i64 (0),.int .i64 (0),.int .i64 (0)] []),[],none⟩,
 ⟨(some 26),38,.move,[.t 7],none⟩,
 ⟨none,39,(.store 3),[.t 2,.t 25],none⟩,
 ⟨(some 3),40,.move,[.t 26],none⟩])
 (.ret)) (.skip)))
 (.region [⟨(some 27),41,(.load true 3),[.t 6],none⟩,
 ⟨none,42,(.store 3),[.t 4,.t 27],none⟩])))))
 (.region [⟨(some 28),43,(.bin .add),[.t 11,.c (.int .i64 (1))],none⟩,
 ⟨(some 11),44,.move,[.t 28],none⟩])))))))
 (.seq (.region [⟨(some 29),45,(.load true 3),[.t 4],none⟩,
 ⟨none,46,(.store 3),[.t 2,.t 29],none⟩,
 ⟨(some 3),47,.move,[.c (.int .i64 (0))],none⟩])
 (.ret)))))
 [.cell 2 true 3,.tmp 3] 0 29
def f53.env : Env := [(68,f68.C)]
def f53.tree (a : List (T_ar3_i64)) : Prop := ∃ (I2 : (Int × Int × Int × Int × Int × Int × Int)→Prop) (μ3 : (Int × Int × Int × Int × Int × Int × Int)→Nat),(∃ x1 : Int × Int × Int × Int × Int × Int × Int,(a.length = a.length)∧(∀ i,i < a.length→DEqs ((gl e_ar3_i64 a) i) ((gl e_ar3_i64 a) i))∧((a.length : Int) = (a.length : Int))∧((0 : Int) = x1.1)∧((0 : Int) = x1.2.1)∧((0 : Int) = x1.2.2.1)∧((0 : Int) = x1.2.2.2.1)∧((0 : Int) = x1.2.2.2.2.1)∧((0 : Int) = x1.2.2.2.2.2.1)∧((0 : Int) = x1.2.2.2.2.2.2)∧I2 x1)∧∀ y4 : Int × Int × Int × Int × Int × Int × Int,I2 y4→(Br (decide (y4.1 < (a.length : Int))) (Br (decide ((0 : Int)≤y4.1) && decide (y4.1 < (a.length : Int))) (∃ c8 : T_ar3_i64 × T_ar3_i64,(y4.2.2.2.2.1 = c8.1.1)∧(y4.2.2.2.2.2.1 = c8.1.2.1)∧(y4.2.2.2.2.2.2 = c8.1.2.2)∧(((at_ a y4.1).1) = c8.2.1)∧(((at_ a y4.1).2.1) = c8.2.2.1)∧(((at_ a y4.1).2.2) = c8.2.2.2)∧True∧Br (((addR c8).2) != (0 : Int)) (((0 : Int) = (((sumR a).1).1))∧((0 : Int) = (((sumR a).1).2.1))∧((0 : Int) = (((sumR a).1).2.2))∧(((addR c8).2) = ((sumR a).2))∧True) (Let (IntKind.i64.wrap (y4.1 + (1 : Int))) (fun v12 : Int => ∃ x13 : Int × Int × Int × Int × Int × Int × Int,(a.length = a.length)∧(∀ i,i < a.length→DEqs ((gl e_ar3_i64 a) i) ((gl e_ar3_i64 a) i))∧((a.length : Int) = (a.length : Int))∧(v12 = x13.1)∧(y4.2.1 = x13.2.1)∧(y4.2.2.1 = x13.2.2.1)∧(y4.2.2.2.1 = x13.2.2.2.1)∧((((addR c8).1).1) = x13.2.2.2.2.1)∧((((addR c8).1).2.1) = x13.2.2.2.2.2.1)∧((((addR c8).1).2.2) = x13.2.2.2.2.2.2)∧I2 x13∧μ3 x13 < μ3 y4))) False) ((y4.2.2.2.2.1 = (((sumR a).1).1))∧(y4.2.2.2.2.2.1 = (((sumR a).1).2.1))∧(y4.2.2.2.2.2.2 = (((sumR a).1).2.2))∧((0 : Int) = ((sumR a).2))∧True))
def f53.vc (a : List (T_ar3_i64)) : Prop := (∃ (I2 : (Int × Int × Int × Int × Int × Int × Int)→Prop) (μ3 : (Int × Int × Int × Int × Int × Int × Int)→Nat),I2 ((0 : Int),(0 : Int),(0 : Int),(0 : Int),(0 : Int),(0 : Int),(0 : Int))∧∀ y4 : Int × Int × Int × Int × Int × Int × Int,I2 y4→((y4.1 < (a.length : Int)→((0 : Int)≤y4.1∧y4.1 < (a.length : Int)∧((¬ ((addR (y4.2.2.2.2,(at_ a y4.1))).2) = (0 : Int)→((((0 : Int),(0 : Int),(0 : Int)),(addR (y4.2.2.2.2,(at_ a y4.1))).2) = sumR a))∧(¬ (¬ ((addR (y4.2.2.2.2,(at_ a y4.1))).2) = (0 : Int))→(-9223372036854775808≤(y4.1 + (1 : Int))∧(y4.1 + (1 : Int))≤9223372036854775807∧(I2 ((y4.1 + (1 : Int)),y4.2.1,y4.2.2.1,y4.2.2.2.1,((addR (y4.2.2.2.2,(at_ a y4.1))).1).1,((addR (y4.2.2.2.2,(at_ a y4.1))).1).2.1,((addR (y4.2.2.2.2,(at_ a y4.1))).1).2.2)∧μ3 ((y4.1 + (1 : Int)),y4.2.1,y4.2.2.1,y4.2.2.2.1,((addR (y4.2.2.2.2,(at_ a y4.1))).1).1,((addR (y4.2.2.2.2,(at_ a y4.1))).1).2.1,((addR (y4.2.2.2.2,(at_ a y4.1))).1).2.2) < μ3 y4))))))∧(¬ (y4.1 < (a.length : Int))→((y4.2.2.2.2,(0 : Int)) = sumR a))))
set_option maxRecDepth 100000 in
set_option maxHeartbeats 2000000 in
theorem f53.of (a : List (T_ar3_i64)) (h : f53.vc a) : f53.tree a := Exists.elim h (fun I2 h25_ => Exists.elim h25_ (fun μ3 h25 => ⟨I2,μ3,⟨((0 : Int),(0 : Int),(0 : Int),(0 : Int),(0 : Int),(0 : Int),(0 : Int)),slK (Rds.self (enc := e_ar3_i64)) (⟨rfl,⟨rfl,⟨rfl,⟨rfl,⟨rfl,⟨rfl,⟨rfl,⟨rfl,h25.1⟩⟩⟩⟩⟩⟩⟩⟩)⟩,fun y4 h27 => br (h25.2 y4 h27) Cnd.dec (fun h5 k23 => chk k23.2.2 Cnd.ix ⟨k23.1,k23.2.1⟩ (fun h7 k21 => ⟨(y4.2.2.2.2,(at_ a y4.1)),⟨rfl,⟨rfl,⟨rfl,⟨rfl,⟨rfl,⟨rfl,⟨trivial,br k21 Cnd.ne (fun h9 k18 => ⟨(congrArg (fun x : T_ar3_i64 × Int => x.1.1) k18 :),⟨(congrArg (fun x : T_ar3_i64 × Int => x.1.2.1) k18 :),⟨(congrArg (fun x : T_ar3_i64 × Int => x.1.2.2) k18 :),⟨(congrArg (fun x : T_ar3_i64 × Int => x.2) k18 :),trivial⟩⟩⟩⟩) (fun h10 k19 => wrapK.i64 k19 (fun h15 h16 k17 => ⟨((y4.1 + (1 : Int)),y4.2.1,y4.2.2.1,y4.2.2.2.1,((addR (y4.2.2.2.2,(at_ a y4.1))).1).1,((addR (y4.2.2.2.2,(at_ a y4.1))).1).2.1,((addR (y4.2.2.2.2,(at_ a y4.1))).1).2.2),slK (Rds.self (enc := e_ar3_i64)) (⟨rfl,⟨rfl,⟨rfl,⟨rfl,⟨rfl,⟨rfl,⟨rfl,⟨rfl,k17⟩⟩⟩⟩⟩⟩⟩⟩)⟩))⟩⟩⟩⟩⟩⟩⟩⟩)) (fun h6 k24 => ⟨(congrArg (fun x : T_ar3_i64 × Int => x.1.1) k24 :),⟨(congrArg (fun x : T_ar3_i64 × Int => x.1.2.1) k24 :),⟨(congrArg (fun x : T_ar3_i64 × Int => x.1.2.2) k24 :),⟨(congrArg (fun x : T_ar3_i64 × Int => x.2) k24 :),trivial⟩⟩⟩⟩)⟩))
theorem f53.eq (a : List (T_ar3_i64)) : (f53.af a).gives f53.env (f53.args a) (f53.blks a) (f53.res a) (f53.blks' a) = f53.tree a := by kernel_rfl
end Go.Abs

-- interregnum/quota.Used
namespace Go.Abs
open Go
end Go.Abs

/- interregnum/quota.Used -/
namespace Go.Abs
open Go
set_option linter.unusedVariables false
end Go.Abs

-- interregnum/interregnumref10.Used
namespace Go.Abs
open Go
end Go.Abs

/- interregnum/interregnumref10.Used -/
namespace Go.Abs
open Go
set_option linter.unusedVariables false
end Go.Abs

-- interregnum/quota.Admit
namespace Go.Abs
open Go
end Go.Abs

/- interregnum/quota.Admit -/
namespace Go.Abs
open Go
set_option linter.unusedVariables false
end Go.Abs

-- interregnum/interregnumref10.Admit
namespace Go.Abs
open Go
end Go.Abs

/- interregnum/interregnumref10.Admit -/
namespace Go.Abs
open Go
set_option linter.unusedVariables false
end Go.Abs

-- interregnum/quota.Find$1
namespace Go.Abs
open Go
end Go.Abs

/- interregnum/quota.Find$1 -/
namespace Go.Abs
open Go
set_option linter.unusedVariables false
end Go.Abs

-- slices.IndexFunc[[]interregnum/api.Job,interregnum/api.Job]
namespace Go.Abs
open Go
end Go.Abs

/- slices.IndexFunc[[]interregnum/api.Job,interregnum/api.Job] -/
namespace Go.Abs
open Go
set_option linter.unusedVariables false
end Go.Abs

-- interregnum/quota.Find
namespace Go.Abs
open Go
end Go.Abs

/- interregnum/quota.Find -/
namespace Go.Abs
open Go
set_option linter.unusedVariables false
end Go.Abs

-- interregnum/interregnumref10.Find
namespace Go.Abs
open Go
end Go.Abs

/- interregnum/interregnumref10.Find -/
namespace Go.Abs
open Go
set_option linter.unusedVariables false
end Go.Abs

-- interregnum/quota.Waits
namespace Go.Abs
open Go
end Go.Abs

/- interregnum/quota.Waits -/
namespace Go.Abs
open Go
set_option linter.unusedVariables false
end Go.Abs

-- interregnum/interregnumlaw10.awake
namespace Go.Abs
open Go
end Go.Abs

/- interregnum/interregnumlaw10.awake -/
namespace Go.Abs
open Go
set_option linter.unusedVariables false
end Go.Abs

/- What queues bear: what the code asks is so. -/
namespace Go.Abs
open Go

theorem f69.ok (a : TRes × TRes × Int) (h : both_pre a) : f69.vc a := by
  obtain ⟨x,y,s⟩ := a
  have h : s = 1 ∨ s = -1 := h
  unfold f69.vc bothR
  simp only
  refine ⟨fun c => ?_,fun c1 => ⟨fun c => ?_,fun c2 => ?_⟩⟩
  · rw [if_pos (fun hh => c hh.1)]; rfl
  · rw [if_pos (fun hh => c hh.2)]; rfl
  · have c1 := Classical.not_not.1 c1
    have c2 := Classical.not_not.1 c2
    have r1 := rightB_iff.1 c1
    have r2 := rightB_iff.1 c2
    rw [if_neg (not_not_intro (And.intro c1 c2))]
    rcases h with rfl | rfl
    · simp only [Int.one_mul,if_true]
      refine ⟨by omega,by omega,by omega,by omega,by omega,by omega,by omega,by omega,by omega,by omega,by omega,by omega,fun c => ?_,fun c => ?_⟩
      · rw [if_neg (show ¬ rightB (addV x y) = true from c)]; rfl
      · rw [if_pos (show rightB (addV x y) = true from Classical.not_not.1 c)]; rfl
    · have e : addV x (subV zeroR y) = subV x y := by
        unfold addV subV zeroR; simp only [Prod.mk.injEq]; omega
      have en : ∀ z : Int,-1 * z = 0 - z := fun z => by omega
      have hne : ¬ ((-1 : Int) = 1) := by decide
      simp only [hne,if_false,en]
      refine ⟨by omega,by omega,by omega,by omega,by omega,by omega,by omega,by omega,by omega,by omega,by omega,by omega,fun c => ?_,fun c => ?_⟩
      · rw [if_neg (fun hh => c (by rw [← e] at hh; exact hh))]; rfl
      · have c := Classical.not_not.1 c
        rw [if_pos (by rw [← e]; exact c),← e]; rfl

theorem f54.ok (a : TRes × TRes) (_ : True) : f54.vc a := ⟨.inl rfl,rfl⟩

theorem f68.ok (a : TRes × TRes) (_ : True) : f68.vc a := by
  obtain ⟨x,y⟩ := a
  unfold f68.vc addR bothR
  simp only [if_true]
  refine ⟨fun c => ?_,fun c1 => ⟨fun c => ?_,fun c2 => ?_⟩⟩
  · rw [if_pos (fun hh => c hh.1)]; rfl
  · rw [if_pos (fun hh => c hh.2)]; rfl
  · have c1 := Classical.not_not.1 c1
    have c2 := Classical.not_not.1 c2
    have r1 := rightB_iff.1 c1
    have r2 := rightB_iff.1 c2
    rw [if_neg (not_not_intro (And.intro c1 c2))]
    refine ⟨by omega,by omega,by omega,by omega,by omega,by omega,fun c => ?_,fun c => ?_⟩
    · rw [if_neg (show ¬ rightB (addV x y) = true from c)]; rfl
    · rw [if_pos (show rightB (addV x y) = true from Classical.not_not.1 c)]; rfl

theorem f34.ok (a : TRes × TRes) (_ : True) : f34.vc a := by
  obtain ⟨x,y⟩ := a
  have hb : ¬ (x.1 ≤ y.1 ∧ x.2.1 ≤ y.2.1 ∧ x.2.2 ≤ y.2.2) → false = fitsR (x,y) := fun h => (Bool.eq_false_iff.2 fun hh => h (fitsR_iff.1 hh)).symm
  refine ⟨fun c => hb (by simp only at c; omega),fun c1 => ⟨fun c => hb (by simp only at c; omega),fun c2 => ⟨fun c => hb (by simp only at c; omega),fun c3 => ?_⟩⟩⟩
  simp only at c1 c2 c3
  exact (fitsR_iff.2 ⟨by omega,by omega,by omega⟩).symm

theorem sum_vc (a : List TRes) (h : L20 a) : f52.vc a := by
  have h : a.length ≤ 1048576 := h
  refine ⟨fun y => 0 ≤ y.1 ∧ y.1 ≤ (a.length : Int) ∧ sumFrom y.2.2.2.2 (a.drop y.1.toNat) = sumR a,fun y => a.length - y.1.toNat,⟨by simp only; omega,by simp only; omega,rfl⟩,fun y hy => ?_⟩
  obtain ⟨i,r1,r2,r3,out⟩ := y
  obtain ⟨g0,g1,g2⟩ := hy
  simp only at g0 g1 g2 ⊢
  refine ⟨fun hlt => ⟨g0,hlt,fun c => ?_,fun c => ⟨by omega,by omega,⟨by omega,by omega,?_⟩,by omega⟩⟩,fun hge => ?_⟩
  · rw [← g2,drop_at g0 hlt,sumFrom,if_neg c]
    rfl
  · rw [drop_at g0 hlt,sumFrom,if_pos (Classical.not_not.1 c)] at g2
    exact g2
  · rw [← g2,List.drop_of_length_le (by omega)]
    rfl
theorem f52.ok (a : List TRes) (h : L20 a) : f52.vc a := sum_vc a h
theorem f53.ok (a : List TRes) (h : L20 a) : f53.vc a := sum_vc a h

end Go.Abs
