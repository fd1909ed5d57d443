/- Functions, and what the code asks of them: PModel. -/
import Derived.KernelRfl
import Derived.Test.YtabnaedcnfkmiabB37aea0bf
import Derived.Test.YtabnaedcnfkmiabB11639c58
set_option linter.unusedVariables false
set_option linter.unusedSimpArgs false
/- Names,labels,amounts,machines,queues,tasks: what can be,and their bytes. -/
namespace Go.Abs
open Go

abbrev TRes := Int × Int × Int
def nameB (s : ByteArray) : Bool := decide (1 ≤ s.size ∧ s.size ≤ 16) && (nth s.data.toList 0 0 != 45) && s.data.toList.all ltr
def okN (n : Int) : Bool := decide (0 ≤ n ∧ n ≤ 1048576)
def rightB (r : TRes) : Bool := okN r.1 && okN r.2.1 && okN r.2.2
def name_pre (s : ByteArray) : Prop := s.size ≤ 1073741824
end Go.Abs

/- Names,labels,bytes of tasks: plain facts. -/
namespace Go.Abs
open Go
theorem size_zero {a : ByteArray} : a = ByteArray.empty ↔ a.size = 0 := ⟨fun h => by subst h; rfl,fun h => bytes_ext (by
  have := data_length a
  rw [h] at this
  rw [List.length_eq_zero_iff.1 this]; rfl)⟩

theorem nameB_iff {s : ByteArray} : nameB s = true ↔ 1 ≤ s.size ∧ s.size ≤ 16 ∧ bAt s 0 ≠ 45 ∧ ∀ (i : Nat) (x : UInt8),s.data.toList[i]? = some x → ltr x = true := by
  unfold nameB
  have e : nth s.data.toList 0 0 ≠ 45 ↔ bAt s 0 ≠ 45 := by
    unfold bAt
    have : nth s.data.toList (Int.toNat 0) 0 = 45 ↔ (nth s.data.toList (Int.toNat 0) 0).toNat = 45 := ⟨fun h => by rw [h]; rfl,fun h => UInt8.toNat_inj.1 h⟩
    show nth s.data.toList (Int.toNat 0) 0 ≠ 45 ↔ _
    rw [Ne,this]
    omega
  simp only [Bool.and_eq_true,decide_eq_true_eq,bne_iff_ne,List.all_eq_true,e,and_assoc]
  constructor
  · rintro ⟨h1,h2,h3,h4⟩
    exact ⟨h1,h2,h3,fun i x hx => h4 x (List.mem_of_getElem? hx)⟩
  · rintro ⟨h1,h2,h3,h4⟩
    exact ⟨h1,h2,h3,fun x hx => by
      obtain ⟨i,hi⟩ := List.getElem?_of_mem hx
      exact h4 i x hi⟩

theorem ixOdd_neg {l : List UInt8} : ixOdd l < 0 ↔ ∀ (i : Nat) (x : UInt8),l[i]? = some x → ltr x = true := by
  unfold ixOdd
  constructor
  · intro h i x hx
    cases hf : l.findIdx? (fun x => !ltr x) with
    | none =>
      have := List.findIdx?_eq_none_iff.1 hf x (List.mem_of_getElem? hx)
      simpa using this
    | some j => rw [hf] at h; simp only at h; omega
  · intro h
    rw [List.findIdx?_eq_none_iff.2 fun x hx => by
      obtain ⟨i,hi⟩ := List.getElem?_of_mem hx
      simp [h i x hi]]
    decide

theorem hasOdd_not {s : ByteArray} : hasOdd s = false ↔ ∀ (i : Nat) (x : UInt8),s.data.toList[i]? = some x → ltr x = true := by
  unfold hasOdd
  rw [decide_eq_false_iff_not,← ixOdd_neg]
  omega

theorem getD_mem {α : Type} [Inhabited α] {l : List α} {i : Nat} (h : i < l.length) : l.getD i default ∈ l := by
  rw [List.getD_eq_getElem?_getD,List.getElem?_eq_getElem h]
  exact List.getElem_mem h

theorem at_mem {α : Type} [Inhabited α] {l : List α} {i : Int} (h0 : 0 ≤ i) (h : i < (l.length : Int)) : at_ l i ∈ l := getD_mem (by omega)

theorem rightB_iff {r : TRes} : rightB r = true ↔ (0 ≤ r.1 ∧ r.1 ≤ 1048576) ∧ (0 ≤ r.2.1 ∧ r.2.1 ≤ 1048576) ∧ (0 ≤ r.2.2 ∧ r.2.2 ≤ 1048576) := by
  unfold rightB okN
  simp only [Bool.and_eq_true,decide_eq_true_eq,and_assoc]

end Go.Abs

-- interregnum/ident.Name
namespace Go.Abs
open Go
def f48.args (a : ByteArray) : List D := [.str a]
def f48.blks (a : ByteArray) : List (List D) := []
def f48.res (a : ByteArray) : List D := [.bool (nameB a)]
def f48.blks' (a : ByteArray) : List (List D) := []
def f48.C : Contract := FnC f48.args f48.blks (fun a => name_pre a) f48.res f48.blks'
end Go.Abs

/- interregnum/ident.Name -/
namespace Go.Abs
open Go
set_option linter.unusedVariables false
def f48.kills (a : ByteArray) : List Hint := []
def f48.cuts (a : ByteArray) : List (Nat × Σ β : Type,β→Tm) := []
def f48.af (a : ByteArray) : AF := AF.mk (.seq (.region [⟨(some 2),0,.move,[.c (.bool false)],none⟩])
 (.seq (.region [⟨(some 3),1,.move,[.t 0],none⟩,
 ⟨(some 4),2,(.bin .neq),[.t 3,.c (.str ByteArray.empty)],none⟩,
 ⟨(some 5),3,.move,[.t 4],none⟩,
 ⟨(some 6),4,.move,[.t 0],(some (5,true))⟩,
 ⟨(some 7),5,(.len true),[.t 6],(some (5,true))⟩,
 ⟨(some 8),6,(.bin .leq),[.t 7,.c (.int .i64 (16))],(some (5,true))⟩,
 ⟨(some 9),7,.pick,[.t 5,.t 8,.c (.bool false)],none⟩,
 ⟨(some 10),8,.move,[.t 9],none⟩,
 ⟨(some 11),9,.move,[.t 0],(some (10,true))⟩,
 ⟨(some 12),10,.indexStr,[.t 11,.c (.int .i64 (0))],(some (10,true))⟩,
 ⟨(some 13),11,(.bin .neq),[.t 12,.c (.int .u8 (45))],(some (10,true))⟩,
 ⟨(some 14),12,.pick,[.t 10,.t 13,.c (.bool false)],none⟩,
 ⟨(some 15),13,.move,[.t 14],none⟩,
 ⟨(some 16),14,.move,[.t 0],(some (15,true))⟩,
 ⟨(some 17),15,(.call false 66),[.t 16,.c (.fn 67 [])],(some (15,true))⟩,
 ⟨(some 18),19,(.un .not),[.t 17],(some (15,true))⟩,
 ⟨(some 19),20,.pick,[.t 15,.t 18,.c (.bool false)],none⟩,
 ⟨(some 2),21,.move,[.t 19],none⟩])
 (.ret)))
 [.tmp 2] 0 19
def f48.env : Env := [(66,f66.C)]
def f48.tree (a : ByteArray) : Prop := Br (!(a.toList == ByteArray.empty.toList)) (Br (decide ((a.size : Int)≤(16 : Int))) (Br (decide ((0 : Int)≤(0 : Int)) && decide ((0 : Int) < (a.size : Int))) (Br ((bAt a (0 : Int)) != (45 : Int)) (∃ c8 : ByteArray,(a = c8)∧(DEqs [] [])∧(text_pre30 c8)∧((!(hasOdd c8)) = (nameB a))∧True) ((false = (nameB a))∧True)) False) ((false = (nameB a))∧True)) ((false = (nameB a))∧True)
def f48.vc (a : ByteArray) : Prop := ((¬ (a = ByteArray.empty)→(((a.size : Int)≤(16 : Int)→((0 : Int) < (a.size : Int)∧((¬ (bAt a (0 : Int)) = (45 : Int)→(text_pre30 a∧((!(hasOdd a)) = nameB a)))∧(¬ (¬ (bAt a (0 : Int)) = (45 : Int))→(false = nameB a)))))∧(¬ ((a.size : Int)≤(16 : Int))→(false = nameB a))))∧(¬ (¬ (a = ByteArray.empty))→(false = nameB a)))
set_option maxRecDepth 100000 in
set_option maxHeartbeats 2000000 in
theorem f48.of (a : ByteArray) (h : f48.vc a) : f48.tree a := br h (Cnd.not Cnd.seq) (fun h1 k19 => br k19 Cnd.dec (fun h3 k16 => chk k16.2 Cnd.ix ⟨(by decide),k16.1⟩ (fun h5 k14 => br k14 Cnd.ne (fun h6 k12 => ⟨a,⟨rfl,⟨(DEqs.refl _),⟨k12.1,⟨k12.2,trivial⟩⟩⟩⟩⟩) (fun h7 k13 => ⟨k13,trivial⟩))) (fun h4 k17 => ⟨k17,trivial⟩)) (fun h2 k20 => ⟨k20,trivial⟩)
theorem f48.eq (a : ByteArray) : (f48.af a).gives f48.env (f48.args a) (f48.blks a) (f48.res a) (f48.blks' a) = f48.tree a := by kernel_rfl
end Go.Abs

-- interregnum/interregnumref04.Name
namespace Go.Abs
open Go
end Go.Abs

/- interregnum/interregnumref04.Name -/
namespace Go.Abs
open Go
set_option linter.unusedVariables false
end Go.Abs

-- interregnum/ident.Labels
namespace Go.Abs
open Go
end Go.Abs

/- interregnum/ident.Labels -/
namespace Go.Abs
open Go
set_option linter.unusedVariables false
end Go.Abs

-- interregnum/interregnumref04.Labels
namespace Go.Abs
open Go
end Go.Abs

/- interregnum/interregnumref04.Labels -/
namespace Go.Abs
open Go
set_option linter.unusedVariables false
end Go.Abs

-- interregnum/res.Right
namespace Go.Abs
open Go
def f49.args (a : T_ar3_i64) : List D := [.agg [.int .i64 a.1,.int .i64 a.2.1,.int .i64 a.2.2]]
def f49.blks (a : T_ar3_i64) : List (List D) := []
def f49.res (a : T_ar3_i64) : List D := [.bool (rightB a)]
def f49.blks' (a : T_ar3_i64) : List (List D) := []
def f49.C : Contract := FnC f49.args f49.blks (fun _ => True) f49.res f49.blks'
end Go.Abs

/- interregnum/res.Right -/
namespace Go.Abs
open Go
set_option linter.unusedVariables false
def f49.kills (a : T_ar3_i64) : List Hint := [.unroll 4 [0,1,2,3,4,7,8,9,10,11,14,15] [] []]
def f49.cuts (a : T_ar3_i64) : List (Nat × Σ β : Type,β→Tm) := []
def f49.af (a : T_ar3_i64) : AF := AF.mk (.seq (.region [⟨(some 1),0,.box,[.t 0],none⟩,
 ⟨(some 2),1,.move,[.c (.bool false)],none⟩])
 (.seq (.seq (.region [⟨(some 5),2,(.load true 3),[.t 1],none⟩,
 ⟨(some 6),3,.move,[.c (.int .i64 (0))],none⟩])
 (.block 0 (.loop 4 [0,1,2,3,4,7,8,9,10,11,14,15] [] [] 4 16 (.seq (.region [⟨(some 7),4,(.bin .lss),[.t 6,.c (.int .i64 (3))],none⟩])
 (.seq (.cond (.t 7) (.skip) (.exit 0))
 (.seq (.block 1 (.seq (.region [⟨(some 8),5,(.indexArr false 1 3),[.t 5,.t 6],none⟩,
 ⟨(some 4),6,.move,[.t 8],none⟩])
 (.seq (.region [⟨(some 9),7,.move,[.t 4],none⟩,
 ⟨(some 10),8,(.bin .lss),[.t 9,.c (.int .i64 (0))],none⟩,
 ⟨(some 11),9,.move,[.t 10],none⟩,
 ⟨(some 12),10,.move,[.t 4],(some (11,false))⟩,
 ⟨(some 13),11,(.bin .gtr),[.t 12,.c (.int .i64 (1048576))],(some (11,false))⟩,
 ⟨(some 14),12,.pick,[.t 11,.c (.bool true),.t 13],none⟩])
 (.cond (.t 14) (.seq (.region [⟨(some 2),13,.move,[.c (.bool false)],none⟩])
 (.ret)) (.skip)))))
 (.region [⟨(some 15),14,(.bin .add),[.t 6,.c (.int .i64 (1))],none⟩,
 ⟨(some 6),15,.move,[.t 15],none⟩])))))))
 (.seq (.region [⟨(some 2),16,.move,[.c (.bool true)],none⟩])
 (.ret))))
 [.tmp 2] 0 15
def f49.env : Env := []
def f49.tree (a : T_ar3_i64) : Prop := Br (decide (a.1 < (0 : Int))) ((false = (rightB a))∧True) (Br (decide ((1048576 : Int) < a.1)) ((false = (rightB a))∧True) (Br (decide (a.2.1 < (0 : Int))) ((false = (rightB a))∧True) (Br (decide ((1048576 : Int) < a.2.1)) ((false = (rightB a))∧True) (Br (decide (a.2.2 < (0 : Int))) ((false = (rightB a))∧True) (Br (decide ((1048576 : Int) < a.2.2)) ((false = (rightB a))∧True) ((true = (rightB a))∧True))))))
def f49.vc (a : T_ar3_i64) : Prop := ((a.1 < (0 : Int)→(false = rightB a))∧(¬ (a.1 < (0 : Int))→(((1048576 : Int) < a.1→(false = rightB a))∧(¬ ((1048576 : Int) < a.1)→((a.2.1 < (0 : Int)→(false = rightB a))∧(¬ (a.2.1 < (0 : Int))→(((1048576 : Int) < a.2.1→(false = rightB a))∧(¬ ((1048576 : Int) < a.2.1)→((a.2.2 < (0 : Int)→(false = rightB a))∧(¬ (a.2.2 < (0 : Int))→(((1048576 : Int) < a.2.2→(false = rightB a))∧(¬ ((1048576 : Int) < a.2.2)→(true = rightB a)))))))))))))
set_option maxRecDepth 100000 in
set_option maxHeartbeats 2000000 in
theorem f49.of (a : T_ar3_i64) (h : f49.vc a) : f49.tree a := br h Cnd.dec (fun h1 k30 => ⟨k30,trivial⟩) (fun h2 k31 => br k31 Cnd.dec (fun h4 k28 => ⟨k28,trivial⟩) (fun h5 k29 => br k29 Cnd.dec (fun h7 k26 => ⟨k26,trivial⟩) (fun h8 k27 => br k27 Cnd.dec (fun h10 k24 => ⟨k24,trivial⟩) (fun h11 k25 => br k25 Cnd.dec (fun h13 k22 => ⟨k22,trivial⟩) (fun h14 k23 => br k23 Cnd.dec (fun h16 k20 => ⟨k20,trivial⟩) (fun h17 k21 => ⟨k21,trivial⟩))))))
theorem f49.eq (a : T_ar3_i64) : (f49.af a).gives f49.env (f49.args a) (f49.blks a) (f49.res a) (f49.blks' a) = f49.tree a := by kernel_rfl
end Go.Abs

-- interregnum/interregnumref03.Right
namespace Go.Abs
open Go
end Go.Abs

/- interregnum/interregnumref03.Right -/
namespace Go.Abs
open Go
set_option linter.unusedVariables false
end Go.Abs

-- interregnum/model.Node
namespace Go.Abs
open Go
end Go.Abs

/- interregnum/model.Node -/
namespace Go.Abs
open Go
set_option linter.unusedVariables false
end Go.Abs

-- interregnum/interregnumref05.Node
namespace Go.Abs
open Go
end Go.Abs

/- interregnum/interregnumref05.Node -/
namespace Go.Abs
open Go
set_option linter.unusedVariables false
end Go.Abs

-- interregnum/model.Queue
namespace Go.Abs
open Go
end Go.Abs

/- interregnum/model.Queue -/
namespace Go.Abs
open Go
set_option linter.unusedVariables false
end Go.Abs

-- interregnum/interregnumref05.Queue
namespace Go.Abs
open Go
end Go.Abs

/- interregnum/interregnumref05.Queue -/
namespace Go.Abs
open Go
set_option linter.unusedVariables false
end Go.Abs

-- interregnum/model.maybe
namespace Go.Abs
open Go
end Go.Abs

/- interregnum/model.maybe -/
namespace Go.Abs
open Go
set_option linter.unusedVariables false
end Go.Abs

-- interregnum/model.Task
namespace Go.Abs
open Go
end Go.Abs

/- interregnum/model.Task -/
namespace Go.Abs
open Go
set_option linter.unusedVariables false
end Go.Abs

-- interregnum/interregnumref05.Task
namespace Go.Abs
open Go
end Go.Abs

/- interregnum/interregnumref05.Task -/
namespace Go.Abs
open Go
set_option linter.unusedVariables false
end Go.Abs

/- Names,labels,tasks: what the code asks is so. -/
namespace Go.Abs
open Go

theorem nameB_false {s : ByteArray} (h : nameB s ≠ true) : false = nameB s := by
  cases hh : nameB s with
  | false => rfl
  | true => exact absurd hh h

theorem f48.ok (a : ByteArray) (h : name_pre a) : f48.vc a := by
  unfold f48.vc
  refine ⟨fun h0 => ⟨fun h1 => ⟨?_,fun h2 => ⟨h,?_⟩,fun h2 => ?_⟩,fun h1 => ?_⟩,fun h0 => ?_⟩
  · have : a.size ≠ 0 := fun hh => h0 (size_zero.2 hh)
    omega
  · have hs : 1 ≤ a.size := by
      have : a.size ≠ 0 := fun hh => h0 (size_zero.2 hh)
      omega
    rw [Bool.eq_iff_iff,Bool.not_eq_true',hasOdd_not,nameB_iff]
    exact ⟨fun h3 => ⟨hs,by omega,h2,h3⟩,fun h3 => h3.2.2.2⟩
  · exact nameB_false fun hh => h2 (nameB_iff.1 hh).2.2.1
  · exact nameB_false fun hh => by have := (nameB_iff.1 hh).2.1; omega
  · have h0 := Classical.not_not.1 h0
    exact nameB_false fun hh => by have := (nameB_iff.1 hh).1; rw [size_zero.1 h0] at this; omega

theorem rightB_false {l : TRes} (h : rightB l ≠ true) : false = rightB l := by
  cases hh : rightB l with
  | false => rfl
  | true => exact absurd hh h

theorem right_vc (a : TRes) : f49.vc a := by
  unfold f49.vc
  have hb : ¬ ((0 ≤ a.1 ∧ a.1 ≤ 1048576) ∧ (0 ≤ a.2.1 ∧ a.2.1 ≤ 1048576) ∧ (0 ≤ a.2.2 ∧ a.2.2 ≤ 1048576)) → false = rightB a := fun h => rightB_false fun hh => h (rightB_iff.1 hh)
  refine ⟨fun h => hb (by omega),fun h1 => ⟨fun h => hb (by omega),fun h2 => ⟨fun h => hb (by omega),fun h3 => ⟨fun h => hb (by omega),fun h4 => ⟨fun h => hb (by omega),fun h5 => ⟨fun h => hb (by omega),fun h6 => ?_⟩⟩⟩⟩⟩⟩
  symm
  rw [rightB_iff]
  omega

theorem f49.ok (a : TRes) (_ : True) : f49.vc a := right_vc a
end Go.Abs
