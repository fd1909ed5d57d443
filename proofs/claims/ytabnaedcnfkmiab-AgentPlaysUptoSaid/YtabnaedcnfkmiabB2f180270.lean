/- Functions, and what the code asks of them: PModel. -/
import Derived.KernelRfl
import Derived.Test.YtabnaedcnfkmiabB420da234
import Derived.Test.YtabnaedcnfkmiabBdde4a7e0
set_option linter.unusedVariables false
set_option linter.unusedSimpArgs false
/- Names,labels,amounts,machines,queues,tasks: what can be,and their bytes. -/
namespace Go.Abs
open Go

abbrev TRes := Int × Int × Int
def nameB (s : ByteArray) : Bool := decide (1 ≤ s.size ∧ s.size ≤ 16) && (nth s.data.toList 0 0 != 45) && s.data.toList.all ltr
def okN (n : Int) : Bool := decide (0 ≤ n ∧ n ≤ 1048576)
def rightB (r : TRes) : Bool := okN r.1 && okN r.2.1 && okN r.2.2
def name_pre (s : ByteArray) : Prop := s.size ≤ 1073741824
end Go.Abs

/- Names,labels,bytes of tasks: plain facts. -/
namespace Go.Abs
open Go
theorem ltr_iff (x : UInt8) : ltr x = true ↔ (97 ≤ x.toNat ∧ x.toNat ≤ 122) ∨ (48 ≤ x.toNat ∧ x.toNat ≤ 57) ∨ x.toNat = 45 := by
  unfold ltr
  simp only [Bool.or_eq_true,Bool.and_eq_true,decide_eq_true_eq,beq_iff_eq,UInt8.le_iff_toNat_le,or_assoc]
  have : x = 45 ↔ x.toNat = 45 := ⟨fun h => by subst h; rfl,fun h => UInt8.toNat_inj.1 h⟩
  rw [this]
  rfl

theorem size_zero {a : ByteArray} : a = ByteArray.empty ↔ a.size = 0 := ⟨fun h => by subst h; rfl,fun h => bytes_ext (by
  have := data_length a
  rw [h] at this
  rw [List.length_eq_zero_iff.1 this]; rfl)⟩

theorem nameB_iff {s : ByteArray} : nameB s = true ↔ 1 ≤ s.size ∧ s.size ≤ 16 ∧ bAt s 0 ≠ 45 ∧ ∀ (i : Nat) (x : UInt8),s.data.toList[i]? = some x → ltr x = true := by
  unfold nameB
  have e : nth s.data.toList 0 0 ≠ 45 ↔ bAt s 0 ≠ 45 := by
    unfold bAt
    have : nth s.data.toList (Int.toNat 0) 0 = 45 ↔ (nth s.data.toList (Int.toNat 0) 0).toNat = 45 := ⟨fun h => by rw [h]; rfl,fun h => UInt8.toNat_inj.1 h⟩
    show nth s.data.toList (Int.toNat 0) 0 ≠ 45 ↔ _
    rw [Ne,this]
    omega
  simp only [Bool.and_eq_true,decide_eq_true_eq,bne_iff_ne,List.all_eq_true,e,and_assoc]
  constructor
  · rintro ⟨h1,h2,h3,h4⟩
    exact ⟨h1,h2,h3,fun i x hx => h4 x (List.mem_of_getElem? hx)⟩
  · rintro ⟨h1,h2,h3,h4⟩
    exact ⟨h1,h2,h3,fun x hx => by
      obtain ⟨i,hi⟩ := List.getElem?_of_mem hx
      exact h4 i x hi⟩

theorem ixOdd_neg {l : List UInt8} : ixOdd l < 0 ↔ ∀ (i : Nat) (x : UInt8),l[i]? = some x → ltr x = true := by
  unfold ixOdd
  constructor
  · intro h i x hx
    cases hf : l.findIdx? (fun x => !ltr x) with
    | none =>
      have := List.findIdx?_eq_none_iff.1 hf x (List.mem_of_getElem? hx)
      simpa using this
    | some j => rw [hf] at h; simp only at h; omega
  · intro h
    rw [List.findIdx?_eq_none_iff.2 fun x hx => by
      obtain ⟨i,hi⟩ := List.getElem?_of_mem hx
      simp [h i x hi]]
    decide

theorem hasOdd_not {s : ByteArray} : hasOdd s = false ↔ ∀ (i : Nat) (x : UInt8),s.data.toList[i]? = some x → ltr x = true := by
  unfold hasOdd
  rw [decide_eq_false_iff_not,← ixOdd_neg]
  omega

theorem getD_mem {α : Type} [Inhabited α] {l : List α} {i : Nat} (h : i < l.length) : l.getD i default ∈ l := by
  rw [List.getD_eq_getElem?_getD,List.getElem?_eq_getElem h]
  exact List.getElem_mem h

theorem at_mem {α : Type} [Inhabited α] {l : List α} {i : Int} (h0 : 0 ≤ i) (h : i < (l.length : Int)) : at_ l i ∈ l := getD_mem (by omega)

theorem rightB_iff {r : TRes} : rightB r = true ↔ (0 ≤ r.1 ∧ r.1 ≤ 1048576) ∧ (0 ≤ r.2.1 ∧ r.2.1 ≤ 1048576) ∧ (0 ≤ r.2.2 ∧ r.2.2 ≤ 1048576) := by
  unfold rightB okN
  simp only [Bool.and_eq_true,decide_eq_true_eq,and_assoc]

end Go.Abs

-- interregnum/ident.Name
namespace Go.Abs
open Go
def f48.args (a : ByteArray) : List D := [.str a]
def f48.blks (a : ByteArray) : List (List D) := []
def f48.res (a : ByteArray) : List D := [.bool (nameB a)]
def f48.blks' (a : ByteArray) : List (List D) := []
def f48.C : Contract := FnC f48.args f48.blks (fun a => name_pre a) f48.res f48.blks'
end Go.Abs

/- interregnum/ident.Name -/
namespace Go.Abs
open Go
set_option linter.unusedVariables false
def f48.kills (a : ByteArray) : List Hint := []
def f48.cuts (a : ByteArray) : List (Nat × Σ β : Type,β→Tm) := []
def f48.af (a : ByteArray) : AF := AF.mk (.seq (.region [⟨(some 2),0,.move,[.c (.bool false)],none⟩])
 (.seq (.region [⟨(some 3),1,.move,[.t 0],none⟩,
 ⟨(some 4),2,(.bin .neq),[.t 3,.c (.str ByteArray.empty)],none⟩,
 ⟨(some 5),3,.move,[.t 4],none⟩,
 ⟨(some 6),4,.move,[.t 0],(some (5,true))⟩,
 ⟨(some 7),5,(.len true),[.t 6],(some (5,true))⟩,
 ⟨(some 8),6,(.bin .leq),[.t 7,.c (.int .i64 (16))],(some (5,true))⟩,
 ⟨(some 9),7,.pick,[.t 5,.t 8,.c (.bool false)],none⟩,
 ⟨(some 10),8,.move,[.t 9],none⟩,
 ⟨(some 11),9,.move,[.t 0],(some (10,true))⟩,
 ⟨(some 12),10,.indexStr,[.t 11,.c (.int .i64 (0))],(some (10,true))⟩,
 ⟨(some 13),11,(.bin .neq),[.t 12,.c (.int .u8 (45))],(some (10,true))⟩,
 ⟨(some 14),12,.pick,[.t 10,.t 13,.c (.bool false)],none⟩,
 ⟨(some 15),13,.move,[.t 14],none⟩,
 ⟨(some 16),14,.move,[.t 0],(some (15,true))⟩,
 ⟨(some 17),15,(.call false 66),[.t 16,.c (.fn 67 [])],(some (15,true))⟩,
 ⟨(some 18),19,(.un .not),[.t 17],(some (15,true))⟩,
 ⟨(some 19),20,.pick,[.t 15,.t 18,.c (.bool false)],none⟩,
 ⟨(some 2),21,.move,[.t 19],none⟩])
 (.ret)))
 [.tmp 2] 0 19
def f48.env : Env := [(66,f66.C)]
def f48.tree (a : ByteArray) : Prop := Br (!(a.toList == ByteArray.empty.toList)) (Br (decide ((a.size : Int)≤(16 : Int))) (Br (decide ((0 : Int)≤(0 : Int)) && decide ((0 : Int) < (a.size : Int))) (Br ((bAt a (0 : Int)) != (45 : Int)) (∃ c8 : ByteArray,(a = c8)∧(DEqs [] [])∧(text_pre30 c8)∧((!(hasOdd c8)) = (nameB a))∧True) ((false = (nameB a))∧True)) False) ((false = (nameB a))∧True)) ((false = (nameB a))∧True)
def f48.vc (a : ByteArray) : Prop := ((¬ (a = ByteArray.empty)→(((a.size : Int)≤(16 : Int)→((0 : Int) < (a.size : Int)∧((¬ (bAt a (0 : Int)) = (45 : Int)→(text_pre30 a∧((!(hasOdd a)) = nameB a)))∧(¬ (¬ (bAt a (0 : Int)) = (45 : Int))→(false = nameB a)))))∧(¬ ((a.size : Int)≤(16 : Int))→(false = nameB a))))∧(¬ (¬ (a = ByteArray.empty))→(false = nameB a)))
set_option maxRecDepth 100000 in
set_option maxHeartbeats 2000000 in
theorem f48.of (a : ByteArray) (h : f48.vc a) : f48.tree a := br h (Cnd.not Cnd.seq) (fun h1 k19 => br k19 Cnd.dec (fun h3 k16 => chk k16.2 Cnd.ix ⟨(by decide),k16.1⟩ (fun h5 k14 => br k14 Cnd.ne (fun h6 k12 => ⟨a,⟨rfl,⟨(DEqs.refl _),⟨k12.1,⟨k12.2,trivial⟩⟩⟩⟩⟩) (fun h7 k13 => ⟨k13,trivial⟩))) (fun h4 k17 => ⟨k17,trivial⟩)) (fun h2 k20 => ⟨k20,trivial⟩)
theorem f48.eq (a : ByteArray) : (f48.af a).gives f48.env (f48.args a) (f48.blks a) (f48.res a) (f48.blks' a) = f48.tree a := by kernel_rfl
end Go.Abs

-- interregnum/interregnumref04.Name
namespace Go.Abs
open Go
def f58.args (a : ByteArray) : List D := [.str a]
def f58.blks (a : ByteArray) : List (List D) := []
def f58.res (a : ByteArray) : List D := [.bool (nameB a)]
def f58.blks' (a : ByteArray) : List (List D) := []
def f58.C : Contract := FnC f58.args f58.blks (fun a => name_pre a) f58.res f58.blks'
end Go.Abs

/- interregnum/interregnumref04.Name -/
namespace Go.Abs
open Go
set_option linter.unusedVariables false
def f58.kills (a : ByteArray) : List Hint := [.tell Int (fun x => ⟨[.str a,.dead,.dead,.int .i64 x,.dead,.dead,.dead,.dead,.dead,.dead,.dead,.dead,.dead,.dead,.dead,.dead,.dead,.dead,.dead,.dead,.dead,.dead,.dead,.dead,.dead,.dead,.dead,.dead,.dead,.dead,.dead,.dead,.dead,.dead,.dead,.dead,.dead,.dead,.dead,.dead,.dead,.dead,.dead,.dead,.dead],[],[]⟩)]
def f58.cuts (a : ByteArray) : List (Nat × Σ β : Type,β→Tm) := []
def f58.af (a : ByteArray) : AF := AF.mk (.seq (.region [⟨(some 2),0,.move,[.c (.bool false)],none⟩])
 (.seq (.seq (.region [⟨(some 5),1,.move,[.t 0],none⟩,
 ⟨(some 6),2,(.len true),[.t 5],none⟩,
 ⟨(some 7),3,(.bin .lss),[.t 6,.c (.int .i64 (1))],none⟩,
 ⟨(some 8),4,.move,[.t 7],none⟩,
 ⟨(some 9),5,.move,[.t 0],(some (8,false))⟩,
 ⟨(some 10),6,(.len true),[.t 9],(some (8,false))⟩,
 ⟨(some 11),7,(.bin .gtr),[.t 10,.c (.int .i64 (16))],(some (8,false))⟩,
 ⟨(some 12),8,.pick,[.t 8,.c (.bool true),.t 11],none⟩,
 ⟨(some 13),9,.move,[.t 12],none⟩,
 ⟨(some 14),10,.move,[.t 0],(some (13,false))⟩,
 ⟨(some 15),11,.indexStr,[.t 14,.c (.int .i64 (0))],(some (13,false))⟩,
 ⟨(some 16),12,(.bin .eql),[.t 15,.c (.int .u8 (45))],(some (13,false))⟩,
 ⟨(some 17),13,.pick,[.t 13,.c (.bool true),.t 16],none⟩])
 (.cond (.t 17) (.seq (.region [⟨(some 2),14,.move,[.c (.bool false)],none⟩])
 (.ret)) (.skip)))
 (.seq (.seq (.region [⟨(some 3),15,.move,[.c (.int .i64 (0))],none⟩])
 (.block 0 (.loopT Int (fun x => ⟨[.str a,.dead,.dead,.int .i64 x,.dead,.dead,.dead,.dead,.dead,.dead,.dead,.dead,.dead,.dead,.dead,.dead,.dead,.dead,.dead,.dead,.dead,.dead,.dead,.dead,.dead,.dead,.dead,.dead,.dead,.dead,.dead,.dead,.dead,.dead,.dead,.dead,.dead,.dead,.dead,.dead,.dead,.dead,.dead,.dead,.dead],[],[]⟩) 16 46 (.seq (.seq (.region [⟨(some 18),16,.move,[.t 3],none⟩,
 ⟨(some 19),17,.move,[.t 0],none⟩,
 ⟨(some 20),18,(.len true),[.t 19],none⟩,
 ⟨(some 21),19,(.bin .lss),[.t 18,.t 20],none⟩])
 (.cond (.t 21) (.skip) (.exit 0)))
 (.seq (.block 1 (.seq (.region [⟨(some 24),20,.move,[.t 0],none⟩,
 ⟨(some 25),21,.move,[.t 3],none⟩,
 ⟨(some 26),22,.indexStr,[.t 24,.t 25],none⟩,
 ⟨(some 4),23,.move,[.t 26],none⟩])
 (.seq (.region [⟨(some 27),24,.move,[.t 4],none⟩,
 ⟨(some 28),25,(.bin .lss),[.t 27,.c (.int .u8 (97))],none⟩,
 ⟨(some 29),26,.move,[.t 28],none⟩,
 ⟨(some 30),27,.move,[.t 4],(some (29,false))⟩,
 ⟨(some 31),28,(.bin .gtr),[.t 30,.c (.int .u8 (122))],(some (29,false))⟩,
 ⟨(some 32),29,.pick,[.t 29,.c (.bool true),.t 31],none⟩,
 ⟨(some 33),30,.move,[.t 32],none⟩,
 ⟨(some 34),31,.move,[.t 4],(some (33,true))⟩,
 ⟨(some 35),32,(.bin .lss),[.t 34,.c (.int .u8 (48))],(some (33,true))⟩,
 ⟨(some 36),33,.move,[.t 35],(some (33,true))⟩,
 ⟨(some 37),34,.move,[.t 4],(some (36,false))⟩,
 ⟨(some 38),35,(.bin .gtr),[.t 37,.c (.int .u8 (57))],(some (36,false))⟩,
 ⟨(some 39),36,.pick,[.t 36,.c (.bool true),.t 38],(some (33,true))⟩,
 ⟨(some 40),37,.pick,[.t 33,.t 39,.c (.bool false)],none⟩,
 ⟨(some 41),38,.move,[.t 40],none⟩,
 ⟨(some 42),39,.move,[.t 4],(some (41,true))⟩,
 ⟨(some 43),40,(.bin .neq),[.t 42,.c (.int .u8 (45))],(some (41,true))⟩,
 ⟨(some 44),41,.pick,[.t 41,.t 43,.c (.bool false)],none⟩])
 (.cond (.t 44) (.seq (.region [⟨(some 2),42,.move,[.c (.bool false)],none⟩])
 (.ret)) (.skip)))))
 (.region [⟨(some 22),43,.move,[.t 3],none⟩,
 ⟨(some 23),44,(.bin .add),[.t 22,.c (.int .i64 (1))],none⟩,
 ⟨(some 3),45,.move,[.t 23],none⟩]))))))
 (.seq (.region [⟨(some 2),46,.move,[.c (.bool true)],none⟩])
 (.ret)))))
 [.tmp 2] 0 44
def f58.env : Env := []
def f58.tree (a : ByteArray) : Prop := Br (decide ((a.size : Int) < (1 : Int))) ((false = (nameB a))∧True) (Br (decide ((16 : Int) < (a.size : Int))) ((false = (nameB a))∧True) (Br (decide ((0 : Int)≤(0 : Int)) && decide ((0 : Int) < (a.size : Int))) (Br ((bAt a (0 : Int)) == (45 : Int)) ((false = (nameB a))∧True) (∃ (I12 : Int→Prop) (μ13 : Int→Nat),(∃ x11 : Int,(a = a)∧((0 : Int) = x11)∧I12 x11)∧∀ y14 : Int,I12 y14→(Br (decide (y14 < (a.size : Int))) (Br (decide ((0 : Int)≤y14) && decide (y14 < (a.size : Int))) (Br (decide ((bAt a y14) < (97 : Int))) (Br (decide ((bAt a y14) < (48 : Int))) (Br ((bAt a y14) != (45 : Int)) ((false = (nameB a))∧True) (Let (IntKind.i64.wrap (y14 + (1 : Int))) (fun v25 : Int => ∃ x26 : Int,(a = a)∧(v25 = x26)∧I12 x26∧μ13 x26 < μ13 y14))) (Br (decide ((57 : Int) < (bAt a y14))) (Br ((bAt a y14) != (45 : Int)) ((false = (nameB a))∧True) (Let (IntKind.i64.wrap (y14 + (1 : Int))) (fun v38 : Int => ∃ x39 : Int,(a = a)∧(v38 = x39)∧I12 x39∧μ13 x39 < μ13 y14))) (Let (IntKind.i64.wrap (y14 + (1 : Int))) (fun v46 : Int => ∃ x47 : Int,(a = a)∧(v46 = x47)∧I12 x47∧μ13 x47 < μ13 y14)))) (Br (decide ((122 : Int) < (bAt a y14))) (Br (decide ((bAt a y14) < (48 : Int))) (Br ((bAt a y14) != (45 : Int)) ((false = (nameB a))∧True) (Let (IntKind.i64.wrap (y14 + (1 : Int))) (fun v63 : Int => ∃ x64 : Int,(a = a)∧(v63 = x64)∧I12 x64∧μ13 x64 < μ13 y14))) (Br (decide ((57 : Int) < (bAt a y14))) (Br ((bAt a y14) != (45 : Int)) ((false = (nameB a))∧True) (Let (IntKind.i64.wrap (y14 + (1 : Int))) (fun v76 : Int => ∃ x77 : Int,(a = a)∧(v76 = x77)∧I12 x77∧μ13 x77 < μ13 y14))) (Let (IntKind.i64.wrap (y14 + (1 : Int))) (fun v84 : Int => ∃ x85 : Int,(a = a)∧(v84 = x85)∧I12 x85∧μ13 x85 < μ13 y14)))) (Let (IntKind.i64.wrap (y14 + (1 : Int))) (fun v94 : Int => ∃ x95 : Int,(a = a)∧(v94 = x95)∧I12 x95∧μ13 x95 < μ13 y14)))) False) ((true = (nameB a))∧True)))) False))
def f58.vc (a : ByteArray) : Prop := (((a.size : Int) < (1 : Int)→(false = nameB a))∧(¬ ((a.size : Int) < (1 : Int))→(((16 : Int) < (a.size : Int)→(false = nameB a))∧(¬ ((16 : Int) < (a.size : Int))→((0 : Int) < (a.size : Int)∧(((bAt a (0 : Int)) = (45 : Int)→(false = nameB a))∧(¬ ((bAt a (0 : Int)) = (45 : Int))→(∃ (I12 : Int→Prop) (μ13 : Int→Nat),I12 (0 : Int)∧∀ y14 : Int,I12 y14→((y14 < (a.size : Int)→((0 : Int)≤y14∧y14 < (a.size : Int)∧(((bAt a y14) < (97 : Int)→(((bAt a y14) < (48 : Int)→((¬ (bAt a y14) = (45 : Int)→(false = nameB a))∧(¬ (¬ (bAt a y14) = (45 : Int))→(-9223372036854775808≤(y14 + (1 : Int))∧(y14 + (1 : Int))≤9223372036854775807∧(I12 (y14 + (1 : Int))∧μ13 (y14 + (1 : Int)) < μ13 y14)))))∧(¬ ((bAt a y14) < (48 : Int))→(((57 : Int) < (bAt a y14)→((¬ (bAt a y14) = (45 : Int)→(false = nameB a))∧(¬ (¬ (bAt a y14) = (45 : Int))→(-9223372036854775808≤(y14 + (1 : Int))∧(y14 + (1 : Int))≤9223372036854775807∧(I12 (y14 + (1 : Int))∧μ13 (y14 + (1 : Int)) < μ13 y14)))))∧(¬ ((57 : Int) < (bAt a y14))→(-9223372036854775808≤(y14 + (1 : Int))∧(y14 + (1 : Int))≤9223372036854775807∧(I12 (y14 + (1 : Int))∧μ13 (y14 + (1 : Int)) < μ13 y14)))))))∧(¬ ((bAt a y14) < (97 : Int))→(((122 : Int) < (bAt a y14)→(((bAt a y14) < (48 : Int)→((¬ (bAt a y14) = (45 : Int)→(false = nameB a))∧(¬ (¬ (bAt a y14) = (45 : Int))→(-9223372036854775808≤(y14 + (1 : Int))∧(y14 + (1 : Int))≤9223372036854775807∧(I12 (y14 + (1 : Int))∧μ13 (y14 + (1 : Int)) < μ13 y14)))))∧(¬ ((bAt a y14) < (48 : Int))→(((57 : Int) < (bAt a y14)→((¬ (bAt a y14) = (45 : Int)→(false = nameB a))∧(¬ (¬ (bAt a y14) = (45 : Int))→(-9223372036854775808≤(y14 + (1 : Int))∧(y14 + (1 : Int))≤9223372036854775807∧(I12 (y14 + (1 : Int))∧μ13 (y14 + (1 : Int)) < μ13 y14)))))∧(¬ ((57 : Int) < (bAt a y14))→(-9223372036854775808≤(y14 + (1 : Int))∧(y14 + (1 : Int))≤9223372036854775807∧(I12 (y14 + (1 : Int))∧μ13 (y14 + (1 : Int)) < μ13 y14)))))))∧(¬ ((122 : Int) < (bAt a y14))→(-9223372036854775808≤(y14 + (1 : Int))∧(y14 + (1 : Int))≤9223372036854775807∧(I12 (y14 + (1 : Int))∧μ13 (y14 + (1 : Int)) < μ13 y14))))))))∧(¬ (y14 < (a.size : Int))→(true = nameB a)))))))))))
set_option maxRecDepth 100000 in
set_option maxHeartbeats 2000000 in
theorem f58.of (a : ByteArray) (h : f58.vc a) : f58.tree a := br h Cnd.dec (fun h1 k116 => ⟨k116,trivial⟩) (fun h2 k117 => br k117 Cnd.dec (fun h4 k114 => ⟨k114,trivial⟩) (fun h5 k115 => chk k115.2 Cnd.ix ⟨(by decide),k115.1⟩ (fun h7 k113 => br k113 Cnd.eq (fun h8 k111 => ⟨k111,trivial⟩) (fun h9 k112 => Exists.elim k112 (fun I12 h108_ => Exists.elim h108_ (fun μ13 h108 => ⟨I12,μ13,⟨(0 : Int),⟨rfl,⟨rfl,h108.1⟩⟩⟩,fun y14 h110 => br (h108.2 y14 h110) Cnd.dec (fun h15 k106 => chk k106.2.2 Cnd.ix ⟨k106.1,k106.2.1⟩ (fun h17 k104 => br k104 Cnd.dec (fun h18 k102 => br k102 Cnd.dec (fun h20 k54 => br k54 Cnd.ne (fun h22 k31 => ⟨k31,trivial⟩) (fun h23 k32 => wrapK.i64 k32 (fun h28 h29 k30 => ⟨(y14 + (1 : Int)),⟨rfl,⟨rfl,k30⟩⟩⟩))) (fun h21 k55 => br k55 Cnd.dec (fun h33 k52 => br k52 Cnd.ne (fun h35 k44 => ⟨k44,trivial⟩) (fun h36 k45 => wrapK.i64 k45 (fun h41 h42 k43 => ⟨(y14 + (1 : Int)),⟨rfl,⟨rfl,k43⟩⟩⟩))) (fun h34 k53 => wrapK.i64 k53 (fun h49 h50 k51 => ⟨(y14 + (1 : Int)),⟨rfl,⟨rfl,k51⟩⟩⟩)))) (fun h19 k103 => br k103 Cnd.dec (fun h56 k100 => br k100 Cnd.dec (fun h58 k92 => br k92 Cnd.ne (fun h60 k69 => ⟨k69,trivial⟩) (fun h61 k70 => wrapK.i64 k70 (fun h66 h67 k68 => ⟨(y14 + (1 : Int)),⟨rfl,⟨rfl,k68⟩⟩⟩))) (fun h59 k93 => br k93 Cnd.dec (fun h71 k90 => br k90 Cnd.ne (fun h73 k82 => ⟨k82,trivial⟩) (fun h74 k83 => wrapK.i64 k83 (fun h79 h80 k81 => ⟨(y14 + (1 : Int)),⟨rfl,⟨rfl,k81⟩⟩⟩))) (fun h72 k91 => wrapK.i64 k91 (fun h87 h88 k89 => ⟨(y14 + (1 : Int)),⟨rfl,⟨rfl,k89⟩⟩⟩)))) (fun h57 k101 => wrapK.i64 k101 (fun h97 h98 k99 => ⟨(y14 + (1 : Int)),⟨rfl,⟨rfl,k99⟩⟩⟩))))) (fun h16 k107 => ⟨k107,trivial⟩)⟩))))))
theorem f58.eq (a : ByteArray) : (f58.af a).gives f58.env (f58.args a) (f58.blks a) (f58.res a) (f58.blks' a) = f58.tree a := by kernel_rfl
end Go.Abs

-- interregnum/ident.Labels
namespace Go.Abs
open Go
end Go.Abs

/- interregnum/ident.Labels -/
namespace Go.Abs
open Go
set_option linter.unusedVariables false
end Go.Abs

-- interregnum/interregnumref04.Labels
namespace Go.Abs
open Go
end Go.Abs

/- interregnum/interregnumref04.Labels -/
namespace Go.Abs
open Go
set_option linter.unusedVariables false
end Go.Abs

-- interregnum/res.Right
namespace Go.Abs
open Go
def f49.args (a : T_ar3_i64) : List D := [.agg [.int .i64 a.1,.int .i64 a.2.1,.int .i64 a.2.2]]
def f49.blks (a : T_ar3_i64) : List (List D) := []
def f49.res (a : T_ar3_i64) : List D := [.bool (rightB a)]
def f49.blks' (a : T_ar3_i64) : List (List D) := []
def f49.C : Contract := FnC f49.args f49.blks (fun _ => True) f49.res f49.blks'
end Go.Abs

/- interregnum/res.Right -/
namespace Go.Abs
open Go
set_option linter.unusedVariables false
def f49.kills (a : T_ar3_i64) : List Hint := [.unroll 4 [0,1,2,3,4,7,8,9,10,11,14,15] [] []]
def f49.cuts (a : T_ar3_i64) : List (Nat × Σ β : Type,β→Tm) := []
def f49.af (a : T_ar3_i64) : AF := AF.mk (.seq (.region [⟨(some 1),0,.box,[.t 0],none⟩,
 ⟨(some 2),1,.move,[.c (.bool false)],none⟩])
 (.seq (.seq (.region [⟨(some 5),2,(.load true 3),[.t 1],none⟩,
 ⟨(some 6),3,.move,[.c (.int .i64 (0))],none⟩])
 (.block 0 (.loop 4 [0,1,2,3,4,7,8,9,10,11,14,15] [] [] 4 16 (.seq (.region [⟨(some 7),4,(.bin .lss),[.t 6,.c (.int .i64 (3))],none⟩])
 (.seq (.cond (.t 7) (.skip) (.exit 0))
 (.seq (.block 1 (.seq (.region [⟨(some 8),5,(.indexArr false 1 3),[.t 5,.t 6],none⟩,
 ⟨(some 4),6,.move,[.t 8],none⟩])
 (.seq (.region [⟨(some 9),7,.move,[.t 4],none⟩,
 ⟨(some 10),8,(.bin .lss),[.t 9,.c (.int .i64 (0))],none⟩,
 ⟨(some 11),9,.move,[.t 10],none⟩,
 ⟨(some 12),10,.move,[.t 4],(some (11,false))⟩,
 ⟨(some 13),11,(.bin .gtr),[.t 12,.c (.int .i64 (1048576))],(some (11,false))⟩,
 ⟨(some 14),12,.pick,[.t 11,.c (.bool true),.t 13],none⟩])
 (.cond (.t 14) (.seq (.region [⟨(some 2),13,.move,[.c (.bool false)],none⟩])
 (.ret)) (.skip)))))
 (.region [⟨(some 15),14,(.bin .add),[.t 6,.c (.int .i64 (1))],none⟩,
 ⟨(some 6),15,.move,[.t 15],none⟩])))))))
 (.seq (.region [⟨(some 2),16,.move,[.c (.bool true)],none⟩])
 (.ret))))
 [.tmp 2] 0 15
def f49.env : Env := []
def f49.tree (a : T_ar3_i64) : Prop := Br (decide (a.1 < (0 : Int))) ((false = (rightB a))∧True) (Br (decide ((1048576 : Int) < a.1)) ((false = (rightB a))∧True) (Br (decide (a.2.1 < (0 : Int))) ((false = (rightB a))∧True) (Br (decide ((1048576 : Int) < a.2.1)) ((false = (rightB a))∧True) (Br (decide (a.2.2 < (0 : Int))) ((false = (rightB a))∧True) (Br (decide ((1048576 : Int) < a.2.2)) ((false = (rightB a))∧True) ((true = (rightB a))∧True))))))
def f49.vc (a : T_ar3_i64) : Prop := ((a.1 < (0 : Int)→(false = rightB a))∧(¬ (a.1 < (0 : Int))→(((1048576 : Int) < a.1→(false = rightB a))∧(¬ ((1048576 : Int) < a.1)→((a.2.1 < (0 : Int)→(false = rightB a))∧(¬ (a.2.1 < (0 : Int))→(((1048576 : Int) < a.2.1→(false = rightB a))∧(¬ ((1048576 : Int) < a.2.1)→((a.2.2 < (0 : Int)→(false = rightB a))∧(¬ (a.2.2 < (0 : Int))→(((1048576 : Int) < a.2.2→(false = rightB a))∧(¬ ((1048576 : Int) < a.2.2)→(true = rightB a)))))))))))))
set_option maxRecDepth 100000 in
set_option maxHeartbeats 2000000 in
theorem f49.of (a : T_ar3_i64) (h : f49.vc a) : f49.tree a := br h Cnd.dec (fun h1 k30 => ⟨k30,trivial⟩) (fun h2 k31 => br k31 Cnd.dec (fun h4 k28 => ⟨k28,trivial⟩) (fun h5 k29 => br k29 Cnd.dec (fun h7 k26 => ⟨k26,trivial⟩) (fun h8 k27 => br k27 Cnd.dec (fun h10 k24 => ⟨k24,trivial⟩) (fun h11 k25 => br k25 Cnd.dec (fun h13 k22 => ⟨k22,trivial⟩) (fun h14 k23 => br k23 Cnd.dec (fun h16 k20 => ⟨k20,trivial⟩) (fun h17 k21 => ⟨k21,trivial⟩))))))
theorem f49.eq (a : T_ar3_i64) : (f49.af a).gives f49.env (f49.args a) (f49.blks a) (f49.res a) (f49.blks' a) = f49.tree a := by kernel_rfl
end Go.Abs

-- interregnum/interregnumref03.Right
namespace Go.Abs
open Go
def f55.args (a : T_ar3_i64) : List D := [.agg [.int .i64 a.1,.int .i64 a.2.1,.int .i64 a.2.2]]
def f55.blks (a : T_ar3_i64) : List (List D) := []
def f55.res (a : T_ar3_i64) : List D := [.bool (rightB a)]
def f55.blks' (a : T_ar3_i64) : List (List D) := []
def f55.C : Contract := FnC f55.args f55.blks (fun _ => True) f55.res f55.blks'
end Go.Abs

/- interregnum/interregnumref03.Right -/
namespace Go.Abs
open Go
set_option linter.unusedVariables false
def f55.kills (a : T_ar3_i64) : List Hint := [.unroll 4 [0,2,4,5,6,7,8,9,10,11,12,17] [0] []]
def f55.cuts (a : T_ar3_i64) : List (Nat × Σ β : Type,β→Tm) := []
def f55.af (a : T_ar3_i64) : AF := AF.mk (.seq (.region [⟨(some 1),0,.box,[.t 0],none⟩,
 ⟨(some 2),1,.move,[.c (.bool false)],none⟩])
 (.seq (.seq (.region [⟨(some 3),2,.move,[.c (.int .i64 (0))],none⟩])
 (.block 0 (.loop 4 [0,2,4,5,6,7,8,9,10,11,12,17] [0] [] 3 19 (.seq (.seq (.region [⟨(some 4),3,.move,[.t 3],none⟩,
 ⟨(some 5),4,(.bin .lss),[.t 4,.c (.int .i64 (3))],none⟩])
 (.cond (.t 5) (.skip) (.exit 0)))
 (.seq (.block 1 (.seq (.region [⟨(some 8),5,.move,[.t 3],none⟩,
 ⟨(some 9),6,(.indexAddr 1 (some 3)),[.t 1,.t 8],none⟩,
 ⟨(some 10),7,(.load false 1),[.t 9],none⟩,
 ⟨(some 11),8,(.bin .lss),[.t 10,.c (.int .i64 (0))],none⟩,
 ⟨(some 12),9,.move,[.t 11],none⟩,
 ⟨(some 13),10,.move,[.t 3],(some (12,false))⟩,
 ⟨(some 14),11,(.indexAddr 1 (some 3)),[.t 1,.t 13],(some (12,false))⟩,
 ⟨(some 15),12,(.load false 1),[.t 14],(some (12,false))⟩,
 ⟨(some 16),13,(.bin .gtr),[.t 15,.c (.int .i64 (1048576))],(some (12,false))⟩,
 ⟨(some 17),14,.pick,[.t 12,.c (.bool true),.t 16],none⟩])
 (.cond (.t 17) (.seq (.region [⟨(some 2),15,.move,[.c (.bool false)],none⟩])
 (.ret)) (.skip))))
 (.region [⟨(some 6),16,.move,[.t 3],none⟩,
 ⟨(some 7),17,(.bin .add),[.t 6,.c (.int .i64 (1))],none⟩,
 ⟨(some 3),18,.move,[.t 7],none⟩]))))))
 (.seq (.region [⟨(some 2),19,.move,[.c (.bool true)],none⟩])
 (.ret))))
 [.tmp 2] 0 17
def f55.env : Env := []
def f55.tree (a : T_ar3_i64) : Prop := Br (decide (a.1 < (0 : Int))) ((false = (rightB a))∧True) (Br (decide ((1048576 : Int) < a.1)) ((false = (rightB a))∧True) (Br (decide (a.2.1 < (0 : Int))) ((false = (rightB a))∧True) (Br (decide ((1048576 : Int) < a.2.1)) ((false = (rightB a))∧True) (Br (decide (a.2.2 < (0 : Int))) ((false = (rightB a))∧True) (Br (decide ((1048576 : Int) < a.2.2)) ((false = (rightB a))∧True) ((true = (rightB a))∧True))))))
def f55.vc (a : T_ar3_i64) : Prop := ((a.1 < (0 : Int)→(false = rightB a))∧(¬ (a.1 < (0 : Int))→(((1048576 : Int) < a.1→(false = rightB a))∧(¬ ((1048576 : Int) < a.1)→((a.2.1 < (0 : Int)→(false = rightB a))∧(¬ (a.2.1 < (0 : Int))→(((1048576 : Int) < a.2.1→(false = rightB a))∧(¬ ((1048576 : Int) < a.2.1)→((a.2.2 < (0 : Int)→(false = rightB a))∧(¬ (a.2.2 < (0 : Int))→(((1048576 : Int) < a.2.2→(false = rightB a))∧(¬ ((1048576 : Int) < a.2.2)→(true = rightB a)))))))))))))
set_option maxRecDepth 100000 in
set_option maxHeartbeats 2000000 in
theorem f55.of (a : T_ar3_i64) (h : f55.vc a) : f55.tree a := br h Cnd.dec (fun h1 k30 => ⟨k30,trivial⟩) (fun h2 k31 => br k31 Cnd.dec (fun h4 k28 => ⟨k28,trivial⟩) (fun h5 k29 => br k29 Cnd.dec (fun h7 k26 => ⟨k26,trivial⟩) (fun h8 k27 => br k27 Cnd.dec (fun h10 k24 => ⟨k24,trivial⟩) (fun h11 k25 => br k25 Cnd.dec (fun h13 k22 => ⟨k22,trivial⟩) (fun h14 k23 => br k23 Cnd.dec (fun h16 k20 => ⟨k20,trivial⟩) (fun h17 k21 => ⟨k21,trivial⟩))))))
theorem f55.eq (a : T_ar3_i64) : (f55.af a).gives f55.env (f55.args a) (f55.blks a) (f55.res a) (f55.blks' a) = f55.tree a := by kernel_rfl
end Go.Abs

-- interregnum/model.Node
namespace Go.Abs
open Go
end Go.Abs

/- interregnum/model.Node -/
namespace Go.Abs
open Go
set_option linter.unusedVariables false
end Go.Abs

-- interregnum/interregnumref05.Node
namespace Go.Abs
open Go
end Go.Abs

/- interregnum/interregnumref05.Node -/
namespace Go.Abs
open Go
set_option linter.unusedVariables false
end Go.Abs

-- interregnum/model.Queue
namespace Go.Abs
open Go
end Go.Abs

/- interregnum/model.Queue -/
namespace Go.Abs
open Go
set_option linter.unusedVariables false
end Go.Abs

-- interregnum/interregnumref05.Queue
namespace Go.Abs
open Go
end Go.Abs

/- interregnum/interregnumref05.Queue -/
namespace Go.Abs
open Go
set_option linter.unusedVariables false
end Go.Abs

-- interregnum/model.maybe
namespace Go.Abs
open Go
end Go.Abs

/- interregnum/model.maybe -/
namespace Go.Abs
open Go
set_option linter.unusedVariables false
end Go.Abs

-- interregnum/model.Task
namespace Go.Abs
open Go
end Go.Abs

/- interregnum/model.Task -/
namespace Go.Abs
open Go
set_option linter.unusedVariables false
end Go.Abs

-- interregnum/interregnumref05.Task
namespace Go.Abs
open Go
end Go.Abs

/- interregnum/interregnumref05.Task -/
namespace Go.Abs
open Go
set_option linter.unusedVariables false
end Go.Abs

/- Names,labels,tasks: what the code asks is so. -/
namespace Go.Abs
open Go

theorem nameB_false {s : ByteArray} (h : nameB s ≠ true) : false = nameB s := by
  cases hh : nameB s with
  | false => rfl
  | true => exact absurd hh h

theorem f48.ok (a : ByteArray) (h : name_pre a) : f48.vc a := by
  unfold f48.vc
  refine ⟨fun h0 => ⟨fun h1 => ⟨?_,fun h2 => ⟨h,?_⟩,fun h2 => ?_⟩,fun h1 => ?_⟩,fun h0 => ?_⟩
  · have : a.size ≠ 0 := fun hh => h0 (size_zero.2 hh)
    omega
  · have hs : 1 ≤ a.size := by
      have : a.size ≠ 0 := fun hh => h0 (size_zero.2 hh)
      omega
    rw [Bool.eq_iff_iff,Bool.not_eq_true',hasOdd_not,nameB_iff]
    exact ⟨fun h3 => ⟨hs,by omega,h2,h3⟩,fun h3 => h3.2.2.2⟩
  · exact nameB_false fun hh => h2 (nameB_iff.1 hh).2.2.1
  · exact nameB_false fun hh => by have := (nameB_iff.1 hh).2.1; omega
  · have h0 := Classical.not_not.1 h0
    exact nameB_false fun hh => by have := (nameB_iff.1 hh).1; rw [size_zero.1 h0] at this; omega

theorem f58.ok (a : ByteArray) (h : name_pre a) : f58.vc a := by
  unfold name_pre at h
  unfold f58.vc
  refine ⟨fun h0 => nameB_false fun hh => by have := (nameB_iff.1 hh).1; omega,fun h0 => ⟨fun h1 => nameB_false fun hh => by have := (nameB_iff.1 hh).2.1; omega,fun h1 => ⟨by omega,fun h2 => nameB_false fun hh => (nameB_iff.1 hh).2.2.1 h2,fun h2 => ?_⟩⟩⟩
  refine ⟨fun y => 0 ≤ y ∧ y ≤ (a.size : Int) ∧ ∀ (i : Nat) (x : UInt8),i < y.toNat → a.data.toList[i]? = some x → ltr x = true,fun y => a.size - y.toNat,⟨by omega,by omega,fun i x hi => by simp at hi⟩,fun y hy => ?_⟩
  obtain ⟨g0,g1,g2⟩ := hy
  have hlen := data_length a
  refine ⟨fun hlt => ⟨g0,hlt,?_⟩,fun hge => ?_⟩
  · have hp : y.toNat < a.data.toList.length := by omega
    have hb : bAt a y = ((a.data.toList[y.toNat]'hp).toNat : Int) := by unfold bAt; rw [nth_lt _ _ hp]
    have hbad : ¬ ltr (a.data.toList[y.toNat]'hp) = true → false = nameB a := fun hn => nameB_false fun hh => hn ((nameB_iff.1 hh).2.2.2 y.toNat _ (List.getElem?_eq_getElem hp))
    have hgood : ltr (a.data.toList[y.toNat]'hp) = true → -9223372036854775808 ≤ (y + (1 : Int)) ∧ (y + (1 : Int)) ≤ 9223372036854775807 ∧ (0 ≤ y + 1 ∧ y + 1 ≤ (a.size : Int) ∧ ∀ (i : Nat) (x : UInt8),i < (y + 1).toNat → a.data.toList[i]? = some x → ltr x = true) ∧ a.size - (y + 1).toNat < a.size - y.toNat := fun hg => by
      refine ⟨by omega,by omega,⟨by omega,by omega,fun i x hi hx => ?_⟩,by omega⟩
      by_cases he : i = y.toNat
      · subst he
        rw [List.getElem?_eq_getElem hp] at hx
        cases hx
        exact hg
      · exact g2 i x (by omega) hx
    rw [ltr_iff] at hbad hgood
    generalize a.data.toList[y.toNat]'hp = x at hb hbad hgood
    rw [hb]
    refine ⟨fun c1 => ⟨fun c2 => ⟨fun c3 => hbad (by omega),fun c3 => hgood (by omega)⟩,fun c2 => ⟨fun c3 => ⟨fun c4 => hbad (by omega),fun c4 => hgood (by omega)⟩,fun c3 => hgood (by omega)⟩⟩,
      fun c1 => ⟨fun c2 => ⟨fun c3 => ⟨fun c4 => hbad (by omega),fun c4 => hgood (by omega)⟩,fun c3 => ⟨fun c4 => ⟨fun c5 => hbad (by omega),fun c5 => hgood (by omega)⟩,fun c4 => hgood (by omega)⟩⟩,fun c2 => hgood (by omega)⟩⟩
  · symm
    rw [nameB_iff]
    exact ⟨by omega,by omega,h2,fun i x hx => g2 i x (by have := (List.getElem?_eq_some_iff.1 hx).1; omega) hx⟩

theorem rightB_false {l : TRes} (h : rightB l ≠ true) : false = rightB l := by
  cases hh : rightB l with
  | false => rfl
  | true => exact absurd hh h

theorem right_vc (a : TRes) : f49.vc a := by
  unfold f49.vc
  have hb : ¬ ((0 ≤ a.1 ∧ a.1 ≤ 1048576) ∧ (0 ≤ a.2.1 ∧ a.2.1 ≤ 1048576) ∧ (0 ≤ a.2.2 ∧ a.2.2 ≤ 1048576)) → false = rightB a := fun h => rightB_false fun hh => h (rightB_iff.1 hh)
  refine ⟨fun h => hb (by omega),fun h1 => ⟨fun h => hb (by omega),fun h2 => ⟨fun h => hb (by omega),fun h3 => ⟨fun h => hb (by omega),fun h4 => ⟨fun h => hb (by omega),fun h5 => ⟨fun h => hb (by omega),fun h6 => ?_⟩⟩⟩⟩⟩⟩
  symm
  rw [rightB_iff]
  omega

theorem f49.ok (a : TRes) (_ : True) : f49.vc a := right_vc a
theorem f55.ok (a : TRes) (_ : True) : f55.vc a := right_vc a

end Go.Abs
