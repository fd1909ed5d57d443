/- Functions, and what the code asks of them: PRead. -/
import Derived.KernelRfl
import Derived.Test.YtabnaedcnfkmiadB15aca7b2
import Derived.Test.YtabnaedcnfkmiadBf865c446
import Derived.Test.YtabnaedcnfkmiadB81a2baaf
import Derived.Test.YtabnaedcnfkmiadB2f972113
set_option linter.unusedVariables false
set_option linter.unusedSimpArgs false
/- Machines,queues and tasks,read from bytes. -/
namespace Go.Abs
open Go

abbrev TRd := ByteArray × Int × Int
def rd_pre (r : TRd) : Prop := r.1.size ≤ 536870912
def rdNum_pre (a : TRd × Int × Int) : Prop := rd_pre a.1 ∧ (0 ≤ a.2.1 ∧ a.2.1 ≤ 1048576) ∧ a.2.2 ≠ 0
def rdNum (a : TRd × Int × Int) : Int × TRd :=
  if a.1.2.2 ≠ 0 then (0,a.1) else
  if (takeN (a.1.1,a.1.2.1)).2.2 ≠ 0 then (0,(a.1.1,a.1.2.1,(takeN (a.1.1,a.1.2.1)).2.2)) else
  if a.2.1 < (takeN (a.1.1,a.1.2.1)).1 then (0,(a.1.1,a.1.2.1,a.2.2)) else
  ((takeN (a.1.1,a.1.2.1)).1,(a.1.1,(takeN (a.1.1,a.1.2.1)).2.1,0))
def rdText (r : TRd) : ByteArray × TRd :=
  if r.2.2 ≠ 0 then (ByteArray.empty,r) else
  ((takeText (r.1,r.2.1,16)).1,(r.1,(takeText (r.1,r.2.1,16)).2.1,(takeText (r.1,r.2.1,16)).2.2))
def rfText_pre (a : TRd × Int) : Prop := rd_pre a.1 ∧ a.2 ≤ 9223372036854775807
def rfText (a : TRd × Int) : ByteArray × TRd :=
  if a.1.2.2 ≠ 0 then (ByteArray.empty,a.1) else
  ((takeText (a.1.1,a.1.2.1,a.2)).1,(a.1.1,if (takeText (a.1.1,a.1.2.1,a.2)).2.2 = 0 then (takeText (a.1.1,a.1.2.1,a.2)).2.1 else a.1.2.1,(takeText (a.1.1,a.1.2.1,a.2)).2.2))
def rfT (r : TRd) : ByteArray × TRd := rfText (r,16)
def rdN20 (r : TRd) : Int × TRd := rdNum (r,1048576,3)
def rdAmt (r : TRd) : TRes × TRd := (((rdN20 r).1,(rdN20 (rdN20 r).2).1,(rdN20 (rdN20 (rdN20 r).2).2).1),(rdN20 (rdN20 (rdN20 r).2).2).2)

section
variable (txt : TRd → ByteArray × TRd)
def lblLoop : Nat → List TLbl → TRd → List TLbl × TRd
  | 0,out,r => (out,r)
  | n + 1,out,r => lblLoop n (out ++ [((txt r).1,(txt (txt r).2).1)]) (txt (txt r).2).2
def lblsP (r : TRd) : List TLbl × TRd := lblLoop txt (rdNum (r,4,4)).1.toNat [] (rdNum (r,4,4)).2
def nodeP (r : TRd) : TNode × TRd :=
  let a := txt r
  let c := rdAmt a.2
  let l := lblsP txt c.2
  ((a.1,c.1,l.1),l.2)
def queueP (r : TRd) : TQueue × TRd :=
  let a := txt r
  let c := rdAmt a.2
  ((a.1,c.1),c.2)
def taskP (r : TRd) : TTask × TRd :=
  let a := txt r
  let b := txt a.2
  let p := rdN20 b.2
  let c := rdAmt p.2
  let l := lblsP txt c.2
  let x := txt l.2
  let g := txt x.2
  let s := rdN20 g.2
  ((a.1,b.1,p.1,c.1,l.1,x.1,g.1,s.1),s.2)
end
def rdLbls (r : TRd) : List TLbl × TRd := lblsP rdText r
def rfLbls (r : TRd) : List TLbl × TRd := lblsP rfT r
def rdEnd (a : TRd × Bool) : Int × Int × TRd :=
  if a.1.2.2 ≠ 0 then (0,a.1.2.2,a.1) else if ¬ a.2 = true then (0,3,a.1) else (a.1.2.1,0,a.1)
def rfDone (a : TRd × Bool) : Bool × TRd :=
  if a.1.2.2 = 0 ∧ ¬ a.2 = true then (false,(a.1.1,a.1.2.1,3)) else (decide (a.1.2.2 = 0),a.1)
def zNode : TNode := (ByteArray.empty,(0,0,0),[])
def zQueue : TQueue := (ByteArray.empty,(0,0,0))
def zTask : TTask := (ByteArray.empty,ByteArray.empty,0,(0,0,0),[],ByteArray.empty,ByteArray.empty,0)
def endP {α : Type} (z : α) (p : α × TRd) (ok : Bool) : α × Int × Int :=
  if (rdEnd (p.2,ok)).2.1 ≠ 0 then (z,0,(rdEnd (p.2,ok)).2.1) else (p.1,(rdEnd (p.2,ok)).1,0)
def doneP {α : Type} (z : α) (p : α × TRd) (ok : Bool) : α × TRd :=
  if ¬ (rfDone (p.2,ok)).1 = true then (z,(rfDone (p.2,ok)).2) else (p.1,(rfDone (p.2,ok)).2)
def takeNode (a : ByteArray × Int) : TNode × Int × Int := endP zNode (nodeP rdText (a.1,a.2,0)) (nodeB (nodeP rdText (a.1,a.2,0)).1)
def takeQueue (a : ByteArray × Int) : TQueue × Int × Int := endP zQueue (queueP rdText (a.1,a.2,0)) (queueB (queueP rdText (a.1,a.2,0)).1)
def takeTask (a : ByteArray × Int) : TTask × Int × Int := endP zTask (taskP rdText (a.1,a.2,0)) (taskB (taskP rdText (a.1,a.2,0)).1)
def rfNode (r : TRd) : TNode × TRd := doneP zNode (nodeP rfT r) (nodeB (nodeP rfT r).1)
def rfQueue (r : TRd) : TQueue × TRd := doneP zQueue (queueP rfT r) (queueB (queueP rfT r).1)
def rfTask (r : TRd) : TTask × TRd := doneP zTask (taskP rfT r) (taskB (taskP rfT r).1)
def takes_pre (a : ByteArray × Int) : Prop := a.1.size ≤ 536870912
def sameLbls (a : List TLbl × List TLbl) : Bool := decide (a.1 = a.2)
def LLL20 (a : List TLbl × List TLbl) : Prop := a.1.length ≤ 1048576 ∧ a.2.length ≤ 1048576
def sameNode_pre (a : TNode × TNode) : Prop := LLL20 (a.1.2.2,a.2.2.2)
def sameNode (a : TNode × TNode) : Bool := decide (a.1 = a.2)
def sameTask_pre (a : TTask × TTask) : Prop := LLL20 (a.1.2.2.2.2.1,a.2.2.2.2.2.1)
def sameTask (a : TTask × TTask) : Bool := decide ((a.1.1 = a.2.1 ∧ a.1.2.1 = a.2.2.1 ∧ a.1.2.2.1 = a.2.2.2.1 ∧ a.1.2.2.2.1 = a.2.2.2.2.1) ∧ a.1.2.2.2.2 = a.2.2.2.2.2)
def place5 (a : Int × Int × TRd) : Bool × TRd := (if a.2.2.2.2 ≠ 0 then decide (a.2.1 = a.2.2.2.2 ∧ a.1 = 0) else decide (a.2.1 = 0 ∧ a.1 = a.2.2.2.1),a.2.2)
end Go.Abs

-- (*interregnum/model.reader).number
namespace Go.Abs
open Go
def f321.args (a : T_model_reader × Int × Int) : List D := [.ptr 0 0,.int .u64 a.2.1,.int .i64 a.2.2]
def f321.blks (a : T_model_reader × Int × Int) : List (List D) := [[.slice .ro 1 a.1.1.size (gstr a.1.1),.int .i64 a.1.2.1,.int .i64 a.1.2.2]]
def f321.res (a : T_model_reader × Int × Int) : List D := [.int .i64 ((rdNum a).1)]
def f321.blks' (a : T_model_reader × Int × Int) : List (List D) := [[.slice .ro 1 ((((rdNum a).2).1).size) (gstr (((rdNum a).2).1)),.int .i64 (((rdNum a).2).2.1),.int .i64 (((rdNum a).2).2.2)]]
def f321.C : Contract := FnC f321.args f321.blks (fun a => rdNum_pre a) f321.res f321.blks'
end Go.Abs

/- (*interregnum/model.reader).number -/
namespace Go.Abs
open Go
set_option linter.unusedVariables false
def f321.kills (a : T_model_reader × Int × Int) : List Hint := []
def f321.cuts (a : T_model_reader × Int × Int) : List (Nat × Σ β : Type,β→Tm) := []
def f321.af (a : T_model_reader × Int × Int) : AF := AF.mk (.seq (.region [⟨(some 6),1,.move,[.c (.int .i64 (0))],none⟩])
 (.seq (.seq (.region [⟨(some 10),2,.move,[.t 0],none⟩,
 ⟨(some 11),3,.nilCheck,[.t 10],none⟩,
 ⟨(some 12),4,(.fieldAddr 2),[.t 11],none⟩,
 ⟨(some 13),5,(.load false 1),[.t 12],none⟩,
 ⟨(some 14),6,(.bin .neq),[.t 13,.c (.int .i64 (0))],none⟩])
 (.cond (.t 14) (.seq (.region [⟨(some 6),7,.move,[.c (.int .i64 (0))],none⟩])
 (.ret)) (.skip)))
 (.seq (.region [⟨(some 16),8,.move,[.t 0],none⟩,
 ⟨(some 17),9,.nilCheck,[.t 16],none⟩,
 ⟨(some 18),10,(.fieldAddr 0),[.t 17],none⟩,
 ⟨(some 19),11,(.load false 1),[.t 18],none⟩,
 ⟨(some 20),12,.move,[.t 0],none⟩,
 ⟨(some 21),13,.nilCheck,[.t 20],none⟩,
 ⟨(some 22),14,(.fieldAddr 1),[.t 21],none⟩,
 ⟨(some 23),15,(.load false 1),[.t 22],none⟩,
 ⟨(some 24),16,(.call false 18),[.t 19,.t 23],none⟩,
 ⟨(some 15),20,.move,[.t 24],none⟩,
 ⟨(some 25),21,(.extract 0),[.t 15],none⟩,
 ⟨(some 26),22,(.extract 1),[.t 15],none⟩,
 ⟨(some 27),23,(.extract 2),[.t 15],none⟩,
 ⟨(some 7),24,.move,[.t 25],none⟩,
 ⟨(some 8),25,.move,[.t 26],none⟩,
 ⟨(some 9),26,.move,[.t 27],none⟩])
 (.seq (.block 0 (.seq (.region [⟨(some 35),27,.move,[.t 9],none⟩,
 ⟨(some 36),28,(.bin .neq),[.t 35,.c (.int .i64 (0))],none⟩,
 ⟨(some 34),29,.move,[.t 36],none⟩])
 (.cond (.t 34) (.region [⟨(some 37),30,.move,[.t 0],none⟩,
 ⟨(some 38),31,.move,[.t 9],none⟩,
 ⟨(some 39),32,.nilCheck,[.t 37],none⟩,
 ⟨(some 40),33,(.fieldAddr 2),[.t 39],none⟩,
 ⟨none,34,(.store 1),[.t 40,.t 38],none⟩]) (.seq (.region [⟨(some 42),35,.move,[.t 7],none⟩,
 ⟨(some 43),36,.move,[.t 1],none⟩,
 ⟨(some 44),37,(.bin .gtr),[.t 42,.t 43],none⟩,
 ⟨(some 41),38,.move,[.t 44],none⟩])
 (.cond (.t 41) (.region [⟨(some 45),39,.move,[.t 0],none⟩,
 ⟨(some 46),40,.move,[.t 2],none⟩,
 ⟨(some 47),41,.nilCheck,[.t 45],none⟩,
 ⟨(some 48),42,(.fieldAddr 2),[.t 47],none⟩,
 ⟨none,43,(.store 1),[.t 48,.t 46],none⟩]) (.seq (.region [⟨(some 28),44,.move,[.t 0],none⟩,
 ⟨(some 29),45,.move,[.t 8],none⟩,
 ⟨(some 30),46,.nilCheck,[.t 28],none⟩,
 ⟨(some 31),47,(.fieldAddr 1),[.t 30],none⟩,
 ⟨none,48,(.store 1),[.t 31,.t 29],none⟩])
 (.seq (.region [⟨(some 32),49,.move,[.t 7],none⟩,
 ⟨(some 33),50,(.conv (.int .i64)),[.t 32],none⟩,
 ⟨(some 6),51,.move,[.t 33],none⟩])
 (.ret))))))))
 (.seq (.region [⟨(some 6),52,.move,[.c (.int .i64 (0))],none⟩])
 (.ret))))))
 [.tmp 6] 1 46
def f321.env : Env := [(18,f18.C)]
def f321.tree (a : T_model_reader × Int × Int) : Prop := Br (a.1.2.2 != (0 : Int)) (((0 : Int) = ((rdNum a).1))∧(a.1.1.size = ((((rdNum a).2).1).size))∧(∀ i,i < ((((rdNum a).2).1).size)→DEqs ((gstr a.1.1) i) ((gstr (((rdNum a).2).1)) i))∧(a.1.2.1 = (((rdNum a).2).2.1))∧(a.1.2.2 = (((rdNum a).2).2.2))∧True) (∃ c4 : ByteArray × Int,(a.1.1.size = c4.1.size)∧(∀ i,i < c4.1.size→DEqs ((gstr a.1.1) i) ((gstr c4.1) i))∧(a.1.2.1 = c4.2)∧(take_pre c4)∧Br (((takeN c4).2.2) != (0 : Int)) (((0 : Int) = ((rdNum a).1))∧(a.1.1.size = ((((rdNum a).2).1).size))∧(∀ i,i < ((((rdNum a).2).1).size)→DEqs ((gstr a.1.1) i) ((gstr (((rdNum a).2).1)) i))∧(a.1.2.1 = (((rdNum a).2).2.1))∧(((takeN c4).2.2) = (((rdNum a).2).2.2))∧True) (Br (decide (a.2.1 < ((takeN c4).1))) (((0 : Int) = ((rdNum a).1))∧(a.1.1.size = ((((rdNum a).2).1).size))∧(∀ i,i < ((((rdNum a).2).1).size)→DEqs ((gstr a.1.1) i) ((gstr (((rdNum a).2).1)) i))∧(a.1.2.1 = (((rdNum a).2).2.1))∧(a.2.2 = (((rdNum a).2).2.2))∧True) (Let (IntKind.i64.wrap ((takeN c4).1)) (fun v11 : Int => (v11 = ((rdNum a).1))∧(a.1.1.size = ((((rdNum a).2).1).size))∧(∀ i,i < ((((rdNum a).2).1).size)→DEqs ((gstr a.1.1) i) ((gstr (((rdNum a).2).1)) i))∧(((takeN c4).2.1) = (((rdNum a).2).2.1))∧(a.1.2.2 = (((rdNum a).2).2.2))∧True))))
def f321.vc (a : T_model_reader × Int × Int) : Prop := ((¬ a.1.2.2 = (0 : Int)→(((0 : Int),a.1) = rdNum a))∧(¬ (¬ a.1.2.2 = (0 : Int))→(take_pre (a.1.1,a.1.2.1)∧((¬ ((takeN (a.1.1,a.1.2.1)).2.2) = (0 : Int)→(((0 : Int),(a.1.1,a.1.2.1,(takeN (a.1.1,a.1.2.1)).2.2)) = rdNum a))∧(¬ (¬ ((takeN (a.1.1,a.1.2.1)).2.2) = (0 : Int))→((a.2.1 < ((takeN (a.1.1,a.1.2.1)).1)→(((0 : Int),(a.1.1,a.1.2.1,a.2.2)) = rdNum a))∧(¬ (a.2.1 < ((takeN (a.1.1,a.1.2.1)).1))→(-9223372036854775808≤((takeN (a.1.1,a.1.2.1)).1)∧((takeN (a.1.1,a.1.2.1)).1)≤9223372036854775807∧((((takeN (a.1.1,a.1.2.1)).1),(a.1.1,(takeN (a.1.1,a.1.2.1)).2.1,a.1.2.2)) = rdNum a)))))))))
set_option maxRecDepth 100000 in
set_option maxHeartbeats 2000000 in
theorem f321.of (a : T_model_reader × Int × Int) (h : f321.vc a) : f321.tree a := br h Cnd.ne (fun h1 k21 => ⟨(congrArg (fun x : Int × T_model_reader => x.1) k21 :),slK (RdB.to RdB.self (congrArg (fun x : Int × T_model_reader => x.2.1) k21 :)) (⟨(congrArg (fun x : Int × T_model_reader => x.2.2.1) k21 :),⟨(congrArg (fun x : Int × T_model_reader => x.2.2.2) k21 :),trivial⟩⟩)⟩) (fun h2 k22 => ⟨(a.1.1,a.1.2.1),slK RdB.self (⟨rfl,⟨k22.1,br k22.2 Cnd.ne (fun h5 k18 => ⟨(congrArg (fun x : Int × T_model_reader => x.1) k18 :),slK (RdB.to RdB.self (congrArg (fun x : Int × T_model_reader => x.2.1) k18 :)) (⟨(congrArg (fun x : Int × T_model_reader => x.2.2.1) k18 :),⟨(congrArg (fun x : Int × T_model_reader => x.2.2.2) k18 :),trivial⟩⟩)⟩) (fun h6 k19 => br k19 Cnd.dec (fun h8 k16 => ⟨(congrArg (fun x : Int × T_model_reader => x.1) k16 :),slK (RdB.to RdB.self (congrArg (fun x : Int × T_model_reader => x.2.1) k16 :)) (⟨(congrArg (fun x : Int × T_model_reader => x.2.2.1) k16 :),⟨(congrArg (fun x : Int × T_model_reader => x.2.2.2) k16 :),trivial⟩⟩)⟩) (fun h9 k17 => wrapK.i64 k17 (fun h13 h14 k15 => ⟨(congrArg (fun x : Int × T_model_reader => x.1) k15 :),slK (RdB.to RdB.self (congrArg (fun x : Int × T_model_reader => x.2.1) k15 :)) (⟨(congrArg (fun x : Int × T_model_reader => x.2.2.1) k15 :),⟨(congrArg (fun x : Int × T_model_reader => x.2.2.2) k15 :),trivial⟩⟩)⟩)))⟩⟩)⟩)
theorem f321.eq (a : T_model_reader × Int × Int) : (f321.af a).gives f321.env (f321.args a) (f321.blks a) (f321.res a) (f321.blks' a) = f321.tree a := by kernel_rfl
end Go.Abs

-- (*interregnum/interregnumref05.Reader).Number
namespace Go.Abs
open Go
def f327.args (a : T_interregnumref05_Reader × Int × Int) : List D := [.ptr 0 0,.int .i64 a.2.1,.int .i64 a.2.2]
def f327.blks (a : T_interregnumref05_Reader × Int × Int) : List (List D) := [[.str a.1.1,.int .i64 a.1.2.1,.int .i64 a.1.2.2]]
def f327.res (a : T_interregnumref05_Reader × Int × Int) : List D := [.int .i64 ((rdNum a).1)]
def f327.blks' (a : T_interregnumref05_Reader × Int × Int) : List (List D) := [[.str (((rdNum a).2).1),.int .i64 (((rdNum a).2).2.1),.int .i64 (((rdNum a).2).2.2)]]
def f327.C : Contract := FnC f327.args f327.blks (fun a => rdNum_pre a) f327.res f327.blks'
end Go.Abs

/- (*interregnum/interregnumref05.Reader).Number -/
namespace Go.Abs
open Go
set_option linter.unusedVariables false
def f327.kills (a : T_interregnumref05_Reader × Int × Int) : List Hint := []
def f327.cuts (a : T_interregnumref05_Reader × Int × Int) : List (Nat × Σ β : Type,β→Tm) := []
def f327.af (a : T_interregnumref05_Reader × Int × Int) : AF := AF.mk (.seq (.region [⟨(some 6),1,.move,[.c (.int .i64 (0))],none⟩])
 (.seq (.seq (.region [⟨(some 10),2,.move,[.t 0],none⟩,
 ⟨(some 11),3,.nilCheck,[.t 10],none⟩,
 ⟨(some 12),4,(.fieldAddr 2),[.t 11],none⟩,
 ⟨(some 13),5,(.load false 1),[.t 12],none⟩,
 ⟨(some 14),6,(.bin .neq),[.t 13,.c (.int .i64 (0))],none⟩])
 (.cond (.t 14) (.seq (.region [⟨(some 6),7,.move,[.c (.int .i64 (0))],none⟩])
 (.ret)) (.skip)))
 (.seq (.region [⟨(some 16),8,.move,[.t 0],none⟩,
 ⟨(some 17),9,.nilCheck,[.t 16],none⟩,
 ⟨(some 18),10,(.fieldAddr 0),[.t 17],none⟩,
 ⟨(some 19),11,(.load false 1),[.t 18],none⟩,
 ⟨(some 20),12,.move,[.t 0],none⟩,
 ⟨(some 21),13,.nilCheck,[.t 20],none⟩,
 ⟨(some 22),14,(.fieldAddr 1),[.t 21],none⟩,
 ⟨(some 23),15,(.load false 1),[.t 22],none⟩,
 ⟨(some 24),16,(.call false 19),[.t 19,.t 23],none⟩,
 ⟨(some 15),20,.move,[.t 24],none⟩,
 ⟨(some 25),21,(.extract 0),[.t 15],none⟩,
 ⟨(some 26),22,(.extract 1),[.t 15],none⟩,
 ⟨(some 27),23,(.extract 2),[.t 15],none⟩,
 ⟨(some 7),24,.move,[.t 25],none⟩,
 ⟨(some 8),25,.move,[.t 26],none⟩,
 ⟨(some 9),26,.move,[.t 27],none⟩])
 (.seq (.region [⟨(some 28),27,.move,[.t 0],none⟩,
 ⟨(some 29),28,.move,[.t 9],none⟩,
 ⟨(some 30),29,.nilCheck,[.t 28],none⟩,
 ⟨(some 31),30,(.fieldAddr 2),[.t 30],none⟩,
 ⟨none,31,(.store 1),[.t 31,.t 29],none⟩])
 (.seq (.seq (.region [⟨(some 32),32,.move,[.t 9],none⟩,
 ⟨(some 33),33,(.bin .eql),[.t 32,.c (.int .i64 (0))],none⟩,
 ⟨(some 34),34,.move,[.t 33],none⟩,
 ⟨(some 35),35,.move,[.t 7],(some (34,true))⟩,
 ⟨(some 36),36,.move,[.t 1],(some (34,true))⟩,
 ⟨(some 37),37,(.conv (.int .u64)),[.t 36],(some (34,true))⟩,
 ⟨(some 38),38,(.bin .gtr),[.t 35,.t 37],(some (34,true))⟩,
 ⟨(some 39),39,.pick,[.t 34,.t 38,.c (.bool false)],none⟩])
 (.cond (.t 39) (.region [⟨(some 40),40,.move,[.t 0],none⟩,
 ⟨(some 41),41,.move,[.t 2],none⟩,
 ⟨(some 42),42,.nilCheck,[.t 40],none⟩,
 ⟨(some 43),43,(.fieldAddr 2),[.t 42],none⟩,
 ⟨none,44,(.store 1),[.t 43,.t 41],none⟩]) (.skip)))
 (.seq (.seq (.region [⟨(some 44),45,.move,[.t 0],none⟩,
 ⟨(some 45),46,.nilCheck,[.t 44],none⟩,
 ⟨(some 46),47,(.fieldAddr 2),[.t 45],none⟩,
 ⟨(some 47),48,(.load false 1),[.t 46],none⟩,
 ⟨(some 48),49,(.bin .neq),[.t 47,.c (.int .i64 (0))],none⟩])
 (.cond (.t 48) (.seq (.region [⟨(some 6),50,.move,[.c (.int .i64 (0))],none⟩])
 (.ret)) (.skip)))
 (.seq (.region [⟨(some 49),51,.move,[.t 0],none⟩,
 ⟨(some 50),52,.move,[.t 8],none⟩,
 ⟨(some 51),53,.nilCheck,[.t 49],none⟩,
 ⟨(some 52),54,(.fieldAddr 1),[.t 51],none⟩,
 ⟨none,55,(.store 1),[.t 52,.t 50],none⟩])
 (.seq (.region [⟨(some 53),56,.move,[.t 7],none⟩,
 ⟨(some 54),57,(.conv (.int .i64)),[.t 53],none⟩,
 ⟨(some 6),58,.move,[.t 54],none⟩])
 (.ret)))))))))
 [.tmp 6] 1 52
def f327.env : Env := [(19,f19.C)]
def f327.tree (a : T_interregnumref05_Reader × Int × Int) : Prop := Br (a.1.2.2 != (0 : Int)) (((0 : Int) = ((rdNum a).1))∧(a.1.1 = (((rdNum a).2).1))∧(a.1.2.1 = (((rdNum a).2).2.1))∧(a.1.2.2 = (((rdNum a).2).2.2))∧True) (∃ c4 : ByteArray × Int,(a.1.1 = c4.1)∧(a.1.2.1 = c4.2)∧(take_pre c4)∧Br (((takeN c4).2.2) == (0 : Int)) (Let (IntKind.u64.wrap a.2.1) (fun v7 : Int => Br (decide (v7 < ((takeN c4).1))) (Br (a.2.2 != (0 : Int)) (((0 : Int) = ((rdNum a).1))∧(a.1.1 = (((rdNum a).2).1))∧(a.1.2.1 = (((rdNum a).2).2.1))∧(a.2.2 = (((rdNum a).2).2.2))∧True) (Let (IntKind.i64.wrap ((takeN c4).1)) (fun v13 : Int => (v13 = ((rdNum a).1))∧(a.1.1 = (((rdNum a).2).1))∧(((takeN c4).2.1) = (((rdNum a).2).2.1))∧(a.2.2 = (((rdNum a).2).2.2))∧True))) (Br (((takeN c4).2.2) != (0 : Int)) (((0 : Int) = ((rdNum a).1))∧(a.1.1 = (((rdNum a).2).1))∧(a.1.2.1 = (((rdNum a).2).2.1))∧(((takeN c4).2.2) = (((rdNum a).2).2.2))∧True) (Let (IntKind.i64.wrap ((takeN c4).1)) (fun v21 : Int => (v21 = ((rdNum a).1))∧(a.1.1 = (((rdNum a).2).1))∧(((takeN c4).2.1) = (((rdNum a).2).2.1))∧(((takeN c4).2.2) = (((rdNum a).2).2.2))∧True))))) (Br (((takeN c4).2.2) != (0 : Int)) (((0 : Int) = ((rdNum a).1))∧(a.1.1 = (((rdNum a).2).1))∧(a.1.2.1 = (((rdNum a).2).2.1))∧(((takeN c4).2.2) = (((rdNum a).2).2.2))∧True) (Let (IntKind.i64.wrap ((takeN c4).1)) (fun v32 : Int => (v32 = ((rdNum a).1))∧(a.1.1 = (((rdNum a).2).1))∧(((takeN c4).2.1) = (((rdNum a).2).2.1))∧(((takeN c4).2.2) = (((rdNum a).2).2.2))∧True))))
def f327.vc (a : T_interregnumref05_Reader × Int × Int) : Prop := ((¬ a.1.2.2 = (0 : Int)→(((0 : Int),a.1) = rdNum a))∧(¬ (¬ a.1.2.2 = (0 : Int))→(take_pre (a.1.1,a.1.2.1)∧((((takeN (a.1.1,a.1.2.1)).2.2) = (0 : Int)→(0≤a.2.1∧a.2.1≤18446744073709551615∧(((a.2.1) < ((takeN (a.1.1,a.1.2.1)).1)→((¬ a.2.2 = (0 : Int)→(((0 : Int),(a.1.1,a.1.2.1,a.2.2)) = rdNum a))∧(¬ (¬ a.2.2 = (0 : Int))→(-9223372036854775808≤((takeN (a.1.1,a.1.2.1)).1)∧((takeN (a.1.1,a.1.2.1)).1)≤9223372036854775807∧((((takeN (a.1.1,a.1.2.1)).1),(a.1.1,(takeN (a.1.1,a.1.2.1)).2.1,a.2.2)) = rdNum a)))))∧(¬ ((a.2.1) < ((takeN (a.1.1,a.1.2.1)).1))→(-9223372036854775808≤((takeN (a.1.1,a.1.2.1)).1)∧((takeN (a.1.1,a.1.2.1)).1)≤9223372036854775807∧((((takeN (a.1.1,a.1.2.1)).1),(a.1.1,(takeN (a.1.1,a.1.2.1)).2.1,(takeN (a.1.1,a.1.2.1)).2.2)) = rdNum a))))))∧(¬ (((takeN (a.1.1,a.1.2.1)).2.2) = (0 : Int))→(((0 : Int),(a.1.1,a.1.2.1,(takeN (a.1.1,a.1.2.1)).2.2)) = rdNum a))))))
set_option maxRecDepth 100000 in
set_option maxHeartbeats 2000000 in
theorem f327.of (a : T_interregnumref05_Reader × Int × Int) (h : f327.vc a) : f327.tree a := br h Cnd.ne (fun h1 k40 => ⟨(congrArg (fun x : Int × T_interregnumref05_Reader => x.1) k40 :),⟨(congrArg (fun x : Int × T_interregnumref05_Reader => x.2.1) k40 :),⟨(congrArg (fun x : Int × T_interregnumref05_Reader => x.2.2.1) k40 :),⟨(congrArg (fun x : Int × T_interregnumref05_Reader => x.2.2.2) k40 :),trivial⟩⟩⟩⟩) (fun h2 k41 => ⟨(a.1.1,a.1.2.1),⟨rfl,⟨rfl,⟨k41.1,br k41.2 Cnd.eq (fun h5 k37 => wrapK.u64 k37 (fun h28 h29 k30 => br k30 Cnd.dec (fun h8 k26 => br k26 Cnd.ne (fun h10 k18 => ⟨(congrArg (fun x : Int × T_interregnumref05_Reader => x.1) k18 :),⟨(congrArg (fun x : Int × T_interregnumref05_Reader => x.2.1) k18 :),⟨(congrArg (fun x : Int × T_interregnumref05_Reader => x.2.2.1) k18 :),⟨(congrArg (fun x : Int × T_interregnumref05_Reader => x.2.2.2) k18 :),trivial⟩⟩⟩⟩) (fun h11 k19 => wrapK.i64 k19 (fun h15 h16 k17 => ⟨(congrArg (fun x : Int × T_interregnumref05_Reader => x.1) k17 :),⟨(congrArg (fun x : Int × T_interregnumref05_Reader => x.2.1) k17 :),⟨(congrArg (fun x : Int × T_interregnumref05_Reader => x.2.2.1) k17 :),⟨(congrArg (fun x : Int × T_interregnumref05_Reader => x.2.2.2) k17 :),trivial⟩⟩⟩⟩))) (fun h9 k27 => brF Cnd.ne (fun hn => hn h5) (wrapK.i64 k27 (fun h23 h24 k25 => ⟨(congrArg (fun x : Int × T_interregnumref05_Reader => x.1) k25 :),⟨(congrArg (fun x : Int × T_interregnumref05_Reader => x.2.1) k25 :),⟨(congrArg (fun x : Int × T_interregnumref05_Reader => x.2.2.1) k25 :),⟨(congrArg (fun x : Int × T_interregnumref05_Reader => x.2.2.2) k25 :),trivial⟩⟩⟩⟩))))) (fun h6 k38 => brT Cnd.ne h6 (⟨(congrArg (fun x : Int × T_interregnumref05_Reader => x.1) k38 :),⟨(congrArg (fun x : Int × T_interregnumref05_Reader => x.2.1) k38 :),⟨(congrArg (fun x : Int × T_interregnumref05_Reader => x.2.2.1) k38 :),⟨(congrArg (fun x : Int × T_interregnumref05_Reader => x.2.2.2) k38 :),trivial⟩⟩⟩⟩))⟩⟩⟩⟩)
theorem f327.eq (a : T_interregnumref05_Reader × Int × Int) : (f327.af a).gives f327.env (f327.args a) (f327.blks a) (f327.res a) (f327.blks' a) = f327.tree a := by kernel_rfl
end Go.Abs

-- (*interregnum/model.reader).text
namespace Go.Abs
open Go
def f317.args (a : T_model_reader) : List D := [.ptr 0 0]
def f317.blks (a : T_model_reader) : List (List D) := [[.slice .ro 1 a.1.size (gstr a.1),.int .i64 a.2.1,.int .i64 a.2.2]]
def f317.res (a : T_model_reader) : List D := [.str ((rdText a).1)]
def f317.blks' (a : T_model_reader) : List (List D) := [[.slice .ro 1 ((((rdText a).2).1).size) (gstr (((rdText a).2).1)),.int .i64 (((rdText a).2).2.1),.int .i64 (((rdText a).2).2.2)]]
def f317.C : Contract := FnC f317.args f317.blks (fun a => rd_pre a) f317.res f317.blks'
end Go.Abs

/- (*interregnum/model.reader).text -/
namespace Go.Abs
open Go
set_option linter.unusedVariables false
def f317.kills (a : T_model_reader) : List Hint := []
def f317.cuts (a : T_model_reader) : List (Nat × Σ β : Type,β→Tm) := []
def f317.af (a : T_model_reader) : AF := AF.mk (.seq (.region [⟨(some 2),1,.move,[.c (.str ByteArray.empty)],none⟩])
 (.seq (.seq (.region [⟨(some 6),2,.move,[.t 0],none⟩,
 ⟨(some 7),3,.nilCheck,[.t 6],none⟩,
 ⟨(some 8),4,(.fieldAddr 2),[.t 7],none⟩,
 ⟨(some 9),5,(.load false 1),[.t 8],none⟩,
 ⟨(some 10),6,(.bin .neq),[.t 9,.c (.int .i64 (0))],none⟩])
 (.cond (.t 10) (.seq (.region [⟨(some 2),7,.move,[.c (.str ByteArray.empty)],none⟩])
 (.ret)) (.skip)))
 (.seq (.region [⟨(some 12),8,.move,[.t 0],none⟩,
 ⟨(some 13),9,.nilCheck,[.t 12],none⟩,
 ⟨(some 14),10,(.fieldAddr 0),[.t 13],none⟩,
 ⟨(some 15),11,(.load false 1),[.t 14],none⟩,
 ⟨(some 16),12,.move,[.t 0],none⟩,
 ⟨(some 17),13,.nilCheck,[.t 16],none⟩,
 ⟨(some 18),14,(.fieldAddr 1),[.t 17],none⟩,
 ⟨(some 19),15,(.load false 1),[.t 18],none⟩,
 ⟨(some 20),16,(.call false 20),[.t 15,.t 19,.c (.int .i64 (16))],none⟩,
 ⟨(some 11),20,.move,[.t 20],none⟩,
 ⟨(some 21),21,(.extract 0),[.t 11],none⟩,
 ⟨(some 22),22,(.extract 1),[.t 11],none⟩,
 ⟨(some 23),23,(.extract 2),[.t 11],none⟩,
 ⟨(some 3),24,.move,[.t 21],none⟩,
 ⟨(some 4),25,.move,[.t 22],none⟩,
 ⟨(some 5),26,.move,[.t 23],none⟩])
 (.seq (.region [⟨(some 24),27,.move,[.t 0],none⟩,
 ⟨(some 25),28,.move,[.t 0],none⟩,
 ⟨(some 26),29,.move,[.t 4],none⟩,
 ⟨(some 27),30,.move,[.t 5],none⟩,
 ⟨(some 28),31,.nilCheck,[.t 24],none⟩,
 ⟨(some 29),32,(.fieldAddr 1),[.t 28],none⟩,
 ⟨none,33,(.store 1),[.t 29,.t 26],none⟩,
 ⟨(some 30),34,.nilCheck,[.t 25],none⟩,
 ⟨(some 31),35,(.fieldAddr 2),[.t 30],none⟩,
 ⟨none,36,(.store 1),[.t 31,.t 27],none⟩])
 (.seq (.region [⟨(some 32),37,.move,[.t 3],none⟩,
 ⟨(some 2),38,.move,[.t 32],none⟩])
 (.ret))))))
 [.tmp 2] 1 32
def f317.env : Env := [(20,f20.C)]
def f317.tree (a : T_model_reader) : Prop := Br (a.2.2 != (0 : Int)) ((ByteArray.empty = ((rdText a).1))∧(a.1.size = ((((rdText a).2).1).size))∧(∀ i,i < ((((rdText a).2).1).size)→DEqs ((gstr a.1) i) ((gstr (((rdText a).2).1)) i))∧(a.2.1 = (((rdText a).2).2.1))∧(a.2.2 = (((rdText a).2).2.2))∧True) (∃ c4 : ByteArray × Int × Int,(a.1.size = c4.1.size)∧(∀ i,i < c4.1.size→DEqs ((gstr a.1) i) ((gstr c4.1) i))∧(a.2.1 = c4.2.1)∧((16 : Int) = c4.2.2)∧(takeText_pre c4)∧(((takeText c4).1) = ((rdText a).1))∧(a.1.size = ((((rdText a).2).1).size))∧(∀ i,i < ((((rdText a).2).1).size)→DEqs ((gstr a.1) i) ((gstr (((rdText a).2).1)) i))∧(((takeText c4).2.1) = (((rdText a).2).2.1))∧(((takeText c4).2.2) = (((rdText a).2).2.2))∧True)
def f317.vc (a : T_model_reader) : Prop := ((¬ a.2.2 = (0 : Int)→((ByteArray.empty,a) = rdText a))∧(¬ (¬ a.2.2 = (0 : Int))→(takeText_pre (a.1,a.2.1,(16 : Int))∧(((takeText (a.1,a.2.1,(16 : Int))).1,(a.1,(takeText (a.1,a.2.1,(16 : Int))).2.1,(takeText (a.1,a.2.1,(16 : Int))).2.2)) = rdText a))))
set_option maxRecDepth 100000 in
set_option maxHeartbeats 2000000 in
theorem f317.of (a : T_model_reader) (h : f317.vc a) : f317.tree a := br h Cnd.ne (fun h1 k7 => ⟨(congrArg (fun x : ByteArray × T_model_reader => x.1) k7 :),slK (RdB.to RdB.self (congrArg (fun x : ByteArray × T_model_reader => x.2.1) k7 :)) (⟨(congrArg (fun x : ByteArray × T_model_reader => x.2.2.1) k7 :),⟨(congrArg (fun x : ByteArray × T_model_reader => x.2.2.2) k7 :),trivial⟩⟩)⟩) (fun h2 k8 => ⟨(a.1,a.2.1,(16 : Int)),slK RdB.self (⟨rfl,⟨rfl,⟨k8.1,⟨(congrArg (fun x : ByteArray × T_model_reader => x.1) k8.2 :),slK (RdB.to RdB.self (congrArg (fun x : ByteArray × T_model_reader => x.2.1) k8.2 :)) (⟨(congrArg (fun x : ByteArray × T_model_reader => x.2.2.1) k8.2 :),⟨(congrArg (fun x : ByteArray × T_model_reader => x.2.2.2) k8.2 :),trivial⟩⟩)⟩⟩⟩⟩)⟩)
theorem f317.eq (a : T_model_reader) : (f317.af a).gives f317.env (f317.args a) (f317.blks a) (f317.res a) (f317.blks' a) = f317.tree a := by kernel_rfl
end Go.Abs

-- (*interregnum/interregnumref05.Reader).Text
namespace Go.Abs
open Go
def f323.args (a : T_interregnumref05_Reader × Int) : List D := [.ptr 0 0,.int .i64 a.2]
def f323.blks (a : T_interregnumref05_Reader × Int) : List (List D) := [[.str a.1.1,.int .i64 a.1.2.1,.int .i64 a.1.2.2]]
def f323.res (a : T_interregnumref05_Reader × Int) : List D := [.str ((rfText a).1)]
def f323.blks' (a : T_interregnumref05_Reader × Int) : List (List D) := [[.str (((rfText a).2).1),.int .i64 (((rfText a).2).2.1),.int .i64 (((rfText a).2).2.2)]]
def f323.C : Contract := FnC f323.args f323.blks (fun a => rfText_pre a) f323.res f323.blks'
end Go.Abs

/- (*interregnum/interregnumref05.Reader).Text -/
namespace Go.Abs
open Go
set_option linter.unusedVariables false
def f323.kills (a : T_interregnumref05_Reader × Int) : List Hint := []
def f323.cuts (a : T_interregnumref05_Reader × Int) : List (Nat × Σ β : Type,β→Tm) := []
def f323.af (a : T_interregnumref05_Reader × Int) : AF := AF.mk (.seq (.region [⟨(some 4),1,.move,[.c (.str ByteArray.empty)],none⟩])
 (.seq (.seq (.region [⟨(some 8),2,.move,[.t 0],none⟩,
 ⟨(some 9),3,.nilCheck,[.t 8],none⟩,
 ⟨(some 10),4,(.fieldAddr 2),[.t 9],none⟩,
 ⟨(some 11),5,(.load false 1),[.t 10],none⟩,
 ⟨(some 12),6,(.bin .neq),[.t 11,.c (.int .i64 (0))],none⟩])
 (.cond (.t 12) (.seq (.region [⟨(some 4),7,.move,[.c (.str ByteArray.empty)],none⟩])
 (.ret)) (.skip)))
 (.seq (.region [⟨(some 14),8,.move,[.t 0],none⟩,
 ⟨(some 15),9,.nilCheck,[.t 14],none⟩,
 ⟨(some 16),10,(.fieldAddr 0),[.t 15],none⟩,
 ⟨(some 17),11,(.load false 1),[.t 16],none⟩,
 ⟨(some 18),12,.move,[.t 0],none⟩,
 ⟨(some 19),13,.nilCheck,[.t 18],none⟩,
 ⟨(some 20),14,(.fieldAddr 1),[.t 19],none⟩,
 ⟨(some 21),15,(.load false 1),[.t 20],none⟩,
 ⟨(some 22),16,.move,[.t 1],none⟩,
 ⟨(some 23),17,(.call false 21),[.t 17,.t 21,.t 22],none⟩,
 ⟨(some 13),21,.move,[.t 23],none⟩,
 ⟨(some 24),22,(.extract 0),[.t 13],none⟩,
 ⟨(some 25),23,(.extract 1),[.t 13],none⟩,
 ⟨(some 26),24,(.extract 2),[.t 13],none⟩,
 ⟨(some 5),25,.move,[.t 24],none⟩,
 ⟨(some 6),26,.move,[.t 25],none⟩,
 ⟨(some 7),27,.move,[.t 26],none⟩])
 (.seq (.region [⟨(some 27),28,.move,[.t 0],none⟩,
 ⟨(some 28),29,.move,[.t 7],none⟩,
 ⟨(some 29),30,.nilCheck,[.t 27],none⟩,
 ⟨(some 30),31,(.fieldAddr 2),[.t 29],none⟩,
 ⟨none,32,(.store 1),[.t 30,.t 28],none⟩])
 (.seq (.seq (.region [⟨(some 31),33,.move,[.t 7],none⟩,
 ⟨(some 32),34,(.bin .eql),[.t 31,.c (.int .i64 (0))],none⟩])
 (.cond (.t 32) (.region [⟨(some 33),35,.move,[.t 0],none⟩,
 ⟨(some 34),36,.move,[.t 6],none⟩,
 ⟨(some 35),37,.nilCheck,[.t 33],none⟩,
 ⟨(some 36),38,(.fieldAddr 1),[.t 35],none⟩,
 ⟨none,39,(.store 1),[.t 36,.t 34],none⟩]) (.skip)))
 (.seq (.region [⟨(some 37),40,.move,[.t 5],none⟩,
 ⟨(some 4),41,.move,[.t 37],none⟩])
 (.ret)))))))
 [.tmp 4] 1 36
def f323.env : Env := [(21,f21.C)]
def f323.tree (a : T_interregnumref05_Reader × Int) : Prop := Br (a.1.2.2 != (0 : Int)) ((ByteArray.empty = ((rfText a).1))∧(a.1.1 = (((rfText a).2).1))∧(a.1.2.1 = (((rfText a).2).2.1))∧(a.1.2.2 = (((rfText a).2).2.2))∧True) (∃ c4 : ByteArray × Int × Int,(a.1.1 = c4.1)∧(a.1.2.1 = c4.2.1)∧(a.2 = c4.2.2)∧(takeText_pre c4)∧Br (((takeText c4).2.2) == (0 : Int)) ((((takeText c4).1) = ((rfText a).1))∧(a.1.1 = (((rfText a).2).1))∧(((takeText c4).2.1) = (((rfText a).2).2.1))∧(((takeText c4).2.2) = (((rfText a).2).2.2))∧True) ((((takeText c4).1) = ((rfText a).1))∧(a.1.1 = (((rfText a).2).1))∧(a.1.2.1 = (((rfText a).2).2.1))∧(((takeText c4).2.2) = (((rfText a).2).2.2))∧True))
def f323.vc (a : T_interregnumref05_Reader × Int) : Prop := ((¬ a.1.2.2 = (0 : Int)→((ByteArray.empty,a.1) = rfText a))∧(¬ (¬ a.1.2.2 = (0 : Int))→(takeText_pre (a.1.1,a.1.2.1,a.2)∧((((takeText (a.1.1,a.1.2.1,a.2)).2.2) = (0 : Int)→(((takeText (a.1.1,a.1.2.1,a.2)).1,(a.1.1,(takeText (a.1.1,a.1.2.1,a.2)).2.1,(takeText (a.1.1,a.1.2.1,a.2)).2.2)) = rfText a))∧(¬ (((takeText (a.1.1,a.1.2.1,a.2)).2.2) = (0 : Int))→(((takeText (a.1.1,a.1.2.1,a.2)).1,(a.1.1,a.1.2.1,(takeText (a.1.1,a.1.2.1,a.2)).2.2)) = rfText a))))))
set_option maxRecDepth 100000 in
set_option maxHeartbeats 2000000 in
theorem f323.of (a : T_interregnumref05_Reader × Int) (h : f323.vc a) : f323.tree a := br h Cnd.ne (fun h1 k12 => ⟨(congrArg (fun x : ByteArray × T_interregnumref05_Reader => x.1) k12 :),⟨(congrArg (fun x : ByteArray × T_interregnumref05_Reader => x.2.1) k12 :),⟨(congrArg (fun x : ByteArray × T_interregnumref05_Reader => x.2.2.1) k12 :),⟨(congrArg (fun x : ByteArray × T_interregnumref05_Reader => x.2.2.2) k12 :),trivial⟩⟩⟩⟩) (fun h2 k13 => ⟨(a.1.1,a.1.2.1,a.2),⟨rfl,⟨rfl,⟨rfl,⟨k13.1,br k13.2 Cnd.eq (fun h5 k9 => ⟨(congrArg (fun x : ByteArray × T_interregnumref05_Reader => x.1) k9 :),⟨(congrArg (fun x : ByteArray × T_interregnumref05_Reader => x.2.1) k9 :),⟨(congrArg (fun x : ByteArray × T_interregnumref05_Reader => x.2.2.1) k9 :),⟨(congrArg (fun x : ByteArray × T_interregnumref05_Reader => x.2.2.2) k9 :),trivial⟩⟩⟩⟩) (fun h6 k10 => ⟨(congrArg (fun x : ByteArray × T_interregnumref05_Reader => x.1) k10 :),⟨(congrArg (fun x : ByteArray × T_interregnumref05_Reader => x.2.1) k10 :),⟨(congrArg (fun x : ByteArray × T_interregnumref05_Reader => x.2.2.1) k10 :),⟨(congrArg (fun x : ByteArray × T_interregnumref05_Reader => x.2.2.2) k10 :),trivial⟩⟩⟩⟩)⟩⟩⟩⟩⟩)
theorem f323.eq (a : T_interregnumref05_Reader × Int) : (f323.af a).gives f323.env (f323.args a) (f323.blks a) (f323.res a) (f323.blks' a) = f323.tree a := by kernel_rfl
end Go.Abs

-- (*interregnum/model.reader).amount
namespace Go.Abs
open Go
def f318.args (a : T_model_reader) : List D := [.ptr 0 0]
def f318.blks (a : T_model_reader) : List (List D) := [[.slice .ro 1 a.1.size (gstr a.1),.int .i64 a.2.1,.int .i64 a.2.2]]
def f318.res (a : T_model_reader) : List D := [.agg [.int .i64 (((rdAmt a).1).1),.int .i64 (((rdAmt a).1).2.1),.int .i64 (((rdAmt a).1).2.2)]]
def f318.blks' (a : T_model_reader) : List (List D) := [[.slice .ro 1 ((((rdAmt a).2).1).size) (gstr (((rdAmt a).2).1)),.int .i64 (((rdAmt a).2).2.1),.int .i64 (((rdAmt a).2).2.2)]]
def f318.C : Contract := FnC f318.args f318.blks (fun a => rd_pre a) f318.res f318.blks'
end Go.Abs

/- (*interregnum/model.reader).amount -/
namespace Go.Abs
open Go
set_option linter.unusedVariables false
def f318.kills (a : T_model_reader) : List Hint := [.unroll 4 [1,4,6,7,8,9,10,11,12,13] [0,1,5] []]
def f318.cuts (a : T_model_reader) : List (Nat × Σ β : Type,β→Tm) := []
def f318.af (a : T_model_reader) : AF := AF.mk (.seq (.region [⟨(some 2),1,(.alloc [.int .i64 (0),.int .i64 (0),.int .i64 (0)]),[],none⟩])
 (.seq (.region [⟨(some 3),5,(.alloc [.int .i64 (0),.int .i64 (0),.int .i64 (0)]),[],none⟩])
 (.seq (.seq (.region [⟨(some 5),9,.move,[.c (.int .i64 (0))],none⟩])
 (.block 0 (.loop 4 [1,4,6,7,8,9,10,11,12,13] [0,1,5] [] 10 23 (.seq (.region [⟨(some 6),10,(.bin .lss),[.t 5,.c (.int .i64 (3))],none⟩])
 (.seq (.cond (.t 6) (.skip) (.exit 0))
 (.seq (.block 1 (.seq (.region [⟨(some 7),11,.move,[.t 5],none⟩,
 ⟨(some 4),12,.move,[.t 7],none⟩])
 (.region [⟨(some 8),13,.move,[.t 4],none⟩,
 ⟨(some 9),14,.move,[.t 0],none⟩,
 ⟨(some 10),15,(.call true 321),[.t 9,.c (.int .u64 (1048576)),.c (.int .i64 (3))],none⟩,
 ⟨(some 11),19,(.indexAddr 1 (some 3)),[.t 3,.t 8],none⟩,
 ⟨none,20,(.store 1),[.t 11,.t 10],none⟩])))
 (.region [⟨(some 12),21,(.bin .add),[.t 5,.c (.int .i64 (1))],none⟩,
 ⟨(some 5),22,.move,[.t 12],none⟩])))))))
 (.seq (.region [⟨(some 13),23,(.load true 3),[.t 3],none⟩,
 ⟨none,24,(.store 3),[.t 2,.t 13],none⟩])
 (.ret)))))
 [.cell 2 true 3] 1 13
def f318.env : Env := [(321,f321.C)]
def f318.tree (a : T_model_reader) : Prop := ∃ c1 : T_model_reader × Int × Int,((1048576 : Int) = c1.2.1)∧((3 : Int) = c1.2.2)∧(a.1.size = c1.1.1.size)∧(∀ i,i < c1.1.1.size→DEqs ((gstr a.1) i) ((gstr c1.1.1) i))∧(a.2.1 = c1.1.2.1)∧(a.2.2 = c1.1.2.2)∧(rdNum_pre c1)∧∃ c2 : T_model_reader × Int × Int,((1048576 : Int) = c2.2.1)∧((3 : Int) = c2.2.2)∧(((((rdNum c1).2).1).size) = c2.1.1.size)∧(∀ i,i < c2.1.1.size→DEqs ((gstr (((rdNum c1).2).1)) i) ((gstr c2.1.1) i))∧((((rdNum c1).2).2.1) = c2.1.2.1)∧((((rdNum c1).2).2.2) = c2.1.2.2)∧(rdNum_pre c2)∧∃ c3 : T_model_reader × Int × Int,((1048576 : Int) = c3.2.1)∧((3 : Int) = c3.2.2)∧(((((rdNum c2).2).1).size) = c3.1.1.size)∧(∀ i,i < c3.1.1.size→DEqs ((gstr (((rdNum c2).2).1)) i) ((gstr c3.1.1) i))∧((((rdNum c2).2).2.1) = c3.1.2.1)∧((((rdNum c2).2).2.2) = c3.1.2.2)∧(rdNum_pre c3)∧(((rdNum c1).1) = (((rdAmt a).1).1))∧(((rdNum c2).1) = (((rdAmt a).1).2.1))∧(((rdNum c3).1) = (((rdAmt a).1).2.2))∧(((((rdNum c3).2).1).size) = ((((rdAmt a).2).1).size))∧(∀ i,i < ((((rdAmt a).2).1).size)→DEqs ((gstr (((rdNum c3).2).1)) i) ((gstr (((rdAmt a).2).1)) i))∧((((rdNum c3).2).2.1) = (((rdAmt a).2).2.1))∧((((rdNum c3).2).2.2) = (((rdAmt a).2).2.2))∧True
def f318.vc (a : T_model_reader) : Prop := (rdNum_pre (a,(1048576 : Int),(3 : Int))∧(rdNum_pre (((rdNum (a,(1048576 : Int),(3 : Int))).2),(1048576 : Int),(3 : Int))∧(rdNum_pre (((rdNum (((rdNum (a,(1048576 : Int),(3 : Int))).2),(1048576 : Int),(3 : Int))).2),(1048576 : Int),(3 : Int))∧((((rdNum (a,(1048576 : Int),(3 : Int))).1,(rdNum (((rdNum (a,(1048576 : Int),(3 : Int))).2),(1048576 : Int),(3 : Int))).1,(rdNum (((rdNum (((rdNum (a,(1048576 : Int),(3 : Int))).2),(1048576 : Int),(3 : Int))).2),(1048576 : Int),(3 : Int))).1),((rdNum (((rdNum (((rdNum (a,(1048576 : Int),(3 : Int))).2),(1048576 : Int),(3 : Int))).2),(1048576 : Int),(3 : Int))).2)) = rdAmt a))))
set_option maxRecDepth 100000 in
set_option maxHeartbeats 2000000 in
theorem f318.of (a : T_model_reader) (h : f318.vc a) : f318.tree a := ⟨(a,(1048576 : Int),(3 : Int)),⟨rfl,⟨rfl,slK RdB.self (⟨rfl,⟨rfl,⟨h.1,⟨(((rdNum (a,(1048576 : Int),(3 : Int))).2),(1048576 : Int),(3 : Int)),⟨rfl,⟨rfl,slK RdB.self (⟨rfl,⟨rfl,⟨h.2.1,⟨(((rdNum (((rdNum (a,(1048576 : Int),(3 : Int))).2),(1048576 : Int),(3 : Int))).2),(1048576 : Int),(3 : Int)),⟨rfl,⟨rfl,slK RdB.self (⟨rfl,⟨rfl,⟨h.2.2.1,⟨(congrArg (fun x : T_ar3_i64 × T_model_reader => x.1.1) h.2.2.2 :),⟨(congrArg (fun x : T_ar3_i64 × T_model_reader => x.1.2.1) h.2.2.2 :),⟨(congrArg (fun x : T_ar3_i64 × T_model_reader => x.1.2.2) h.2.2.2 :),slK (RdB.to RdB.self (congrArg (fun x : T_ar3_i64 × T_model_reader => x.2.1) h.2.2.2 :)) (⟨(congrArg (fun x : T_ar3_i64 × T_model_reader => x.2.2.1) h.2.2.2 :),⟨(congrArg (fun x : T_ar3_i64 × T_model_reader => x.2.2.2) h.2.2.2 :),trivial⟩⟩)⟩⟩⟩⟩⟩⟩)⟩⟩⟩⟩⟩⟩)⟩⟩⟩⟩⟩⟩)⟩⟩⟩
theorem f318.eq (a : T_model_reader) : (f318.af a).gives f318.env (f318.args a) (f318.blks a) (f318.res a) (f318.blks' a) = f318.tree a := by kernel_rfl
end Go.Abs

-- (*interregnum/interregnumref05.Reader).amount
namespace Go.Abs
open Go
def f324.args (a : T_interregnumref05_Reader) : List D := [.ptr 0 0]
def f324.blks (a : T_interregnumref05_Reader) : List (List D) := [[.str a.1,.int .i64 a.2.1,.int .i64 a.2.2]]
def f324.res (a : T_interregnumref05_Reader) : List D := [.agg [.int .i64 (((rdAmt a).1).1),.int .i64 (((rdAmt a).1).2.1),.int .i64 (((rdAmt a).1).2.2)]]
def f324.blks' (a : T_interregnumref05_Reader) : List (List D) := [[.str (((rdAmt a).2).1),.int .i64 (((rdAmt a).2).2.1),.int .i64 (((rdAmt a).2).2.2)]]
def f324.C : Contract := FnC f324.args f324.blks (fun a => rd_pre a) f324.res f324.blks'
end Go.Abs

/- (*interregnum/interregnumref05.Reader).amount -/
namespace Go.Abs
open Go
set_option linter.unusedVariables false
def f324.kills (a : T_interregnumref05_Reader) : List Hint := [.unroll 4 [1,5,6,7,8,9,10,11,12,13] [0,1,5] []]
def f324.cuts (a : T_interregnumref05_Reader) : List (Nat × Σ β : Type,β→Tm) := []
def f324.af (a : T_interregnumref05_Reader) : AF := AF.mk (.seq (.region [⟨(some 2),1,(.alloc [.int .i64 (0),.int .i64 (0),.int .i64 (0)]),[],none⟩])
 (.seq (.region [⟨(some 3),5,(.alloc [.int .i64 (0),.int .i64 (0),.int .i64 (0)]),[],none⟩])
 (.seq (.seq (.region [⟨(some 4),9,.move,[.c (.int .i64 (0))],none⟩])
 (.block 0 (.loop 4 [1,5,6,7,8,9,10,11,12,13] [0,1,5] [] 10 23 (.seq (.seq (.region [⟨(some 5),10,.move,[.t 4],none⟩,
 ⟨(some 6),11,(.bin .lss),[.t 5,.c (.int .i64 (3))],none⟩])
 (.cond (.t 6) (.skip) (.exit 0)))
 (.seq (.block 1 (.region [⟨(some 9),12,.move,[.t 4],none⟩,
 ⟨(some 10),13,.move,[.t 0],none⟩,
 ⟨(some 11),14,(.call true 327),[.t 10,.c (.int .i64 (1048576)),.c (.int .i64 (3))],none⟩,
 ⟨(some 12),18,(.indexAddr 1 (some 3)),[.t 3,.t 9],none⟩,
 ⟨none,19,(.store 1),[.t 12,.t 11],none⟩]))
 (.region [⟨(some 7),20,.move,[.t 4],none⟩,
 ⟨(some 8),21,(.bin .add),[.t 7,.c (.int .i64 (1))],none⟩,
 ⟨(some 4),22,.move,[.t 8],none⟩]))))))
 (.seq (.region [⟨(some 13),23,(.load true 3),[.t 3],none⟩,
 ⟨none,24,(.store 3),[.t 2,.t 13],none⟩])
 (.ret)))))
 [.cell 2 true 3] 1 13
def f324.env : Env := [(327,f327.C)]
def f324.tree (a : T_interregnumref05_Reader) : Prop := ∃ c1 : T_interregnumref05_Reader × Int × Int,((1048576 : Int) = c1.2.1)∧((3 : Int) = c1.2.2)∧(a.1 = c1.1.1)∧(a.2.1 = c1.1.2.1)∧(a.2.2 = c1.1.2.2)∧(rdNum_pre c1)∧∃ c2 : T_interregnumref05_Reader × Int × Int,((1048576 : Int) = c2.2.1)∧((3 : Int) = c2.2.2)∧((((rdNum c1).2).1) = c2.1.1)∧((((rdNum c1).2).2.1) = c2.1.2.1)∧((((rdNum c1).2).2.2) = c2.1.2.2)∧(rdNum_pre c2)∧∃ c3 : T_interregnumref05_Reader × Int × Int,((1048576 : Int) = c3.2.1)∧((3 : Int) = c3.2.2)∧((((rdNum c2).2).1) = c3.1.1)∧((((rdNum c2).2).2.1) = c3.1.2.1)∧((((rdNum c2).2).2.2) = c3.1.2.2)∧(rdNum_pre c3)∧(((rdNum c1).1) = (((rdAmt a).1).1))∧(((rdNum c2).1) = (((rdAmt a).1).2.1))∧(((rdNum c3).1) = (((rdAmt a).1).2.2))∧((((rdNum c3).2).1) = (((rdAmt a).2).1))∧((((rdNum c3).2).2.1) = (((rdAmt a).2).2.1))∧((((rdNum c3).2).2.2) = (((rdAmt a).2).2.2))∧True
def f324.vc (a : T_interregnumref05_Reader) : Prop := (rdNum_pre (a,(1048576 : Int),(3 : Int))∧(rdNum_pre (((rdNum (a,(1048576 : Int),(3 : Int))).2),(1048576 : Int),(3 : Int))∧(rdNum_pre (((rdNum (((rdNum (a,(1048576 : Int),(3 : Int))).2),(1048576 : Int),(3 : Int))).2),(1048576 : Int),(3 : Int))∧((((rdNum (a,(1048576 : Int),(3 : Int))).1,(rdNum (((rdNum (a,(1048576 : Int),(3 : Int))).2),(1048576 : Int),(3 : Int))).1,(rdNum (((rdNum (((rdNum (a,(1048576 : Int),(3 : Int))).2),(1048576 : Int),(3 : Int))).2),(1048576 : Int),(3 : Int))).1),((rdNum (((rdNum (((rdNum (a,(1048576 : Int),(3 : Int))).2),(1048576 : Int),(3 : Int))).2),(1048576 : Int),(3 : Int))).2)) = rdAmt a))))
set_option maxRecDepth 100000 in
set_option maxHeartbeats 2000000 in
theorem f324.of (a : T_interregnumref05_Reader) (h : f324.vc a) : f324.tree a := ⟨(a,(1048576 : Int),(3 : Int)),⟨rfl,⟨rfl,⟨rfl,⟨rfl,⟨rfl,⟨h.1,⟨(((rdNum (a,(1048576 : Int),(3 : Int))).2),(1048576 : Int),(3 : Int)),⟨rfl,⟨rfl,⟨rfl,⟨rfl,⟨rfl,⟨h.2.1,⟨(((rdNum (((rdNum (a,(1048576 : Int),(3 : Int))).2),(1048576 : Int),(3 : Int))).2),(1048576 : Int),(3 : Int)),⟨rfl,⟨rfl,⟨rfl,⟨rfl,⟨rfl,⟨h.2.2.1,⟨(congrArg (fun x : T_ar3_i64 × T_interregnumref05_Reader => x.1.1) h.2.2.2 :),⟨(congrArg (fun x : T_ar3_i64 × T_interregnumref05_Reader => x.1.2.1) h.2.2.2 :),⟨(congrArg (fun x : T_ar3_i64 × T_interregnumref05_Reader => x.1.2.2) h.2.2.2 :),⟨(congrArg (fun x : T_ar3_i64 × T_interregnumref05_Reader => x.2.1) h.2.2.2 :),⟨(congrArg (fun x : T_ar3_i64 × T_interregnumref05_Reader => x.2.2.1) h.2.2.2 :),⟨(congrArg (fun x : T_ar3_i64 × T_interregnumref05_Reader => x.2.2.2) h.2.2.2 :),trivial⟩⟩⟩⟩⟩⟩⟩⟩⟩⟩⟩⟩⟩⟩⟩⟩⟩⟩⟩⟩⟩⟩⟩⟩⟩⟩⟩
theorem f324.eq (a : T_interregnumref05_Reader) : (f324.af a).gives f324.env (f324.args a) (f324.blks a) (f324.res a) (f324.blks' a) = f324.tree a := by kernel_rfl
end Go.Abs

-- (*interregnum/model.reader).labels
namespace Go.Abs
open Go
def f319.args (a : T_model_reader) : List D := [.ptr 0 0]
def f319.blks (a : T_model_reader) : List (List D) := [[.slice .ro 1 a.1.size (gstr a.1),.int .i64 a.2.1,.int .i64 a.2.2]]
def f319.res (a : T_model_reader) : List D := [.slice .ro 2 (((rdLbls a).1).length) (gl e_api_Label ((rdLbls a).1))]
def f319.blks' (a : T_model_reader) : List (List D) := [[.slice .ro 1 ((((rdLbls a).2).1).size) (gstr (((rdLbls a).2).1)),.int .i64 (((rdLbls a).2).2.1),.int .i64 (((rdLbls a).2).2.2)]]
def f319.C : Contract := FnC f319.args f319.blks (fun a => rd_pre a) f319.res f319.blks'
end Go.Abs

/- (*interregnum/model.reader).labels -/
namespace Go.Abs
open Go
set_option linter.unusedVariables false
def f319.kills (a : T_model_reader) : List Hint := [.tell ((List (T_api_Label)) × Int × Int × ByteArray × Int × Int) (fun x => ⟨[.ptr 0 0,.dead,.dead,.slice (.own 2) 2 x.1.length (gl e_api_Label x.1),.dead,.dead,.int .i64 x.2.1,.int .i64 x.2.2.1,.dead,.dead,.dead,.dead,.dead,.dead,.dead,.dead,.dead,.dead,.dead,.dead,.dead],[(0,false,[.slice .ro 1 x.2.2.2.1.size (gstr x.2.2.2.1),.int .i64 x.2.2.2.2.1,.int .i64 x.2.2.2.2.2])],[(2,2,x.1.length)]⟩)]
def f319.cuts (a : T_model_reader) : List (Nat × Σ β : Type,β→Tm) := []
def f319.af (a : T_model_reader) : AF := AF.mk (.seq (.region [⟨(some 2),1,(.nilSl 2),[],none⟩])
 (.seq (.region [⟨(some 3),2,(.nilSl 2),[],none⟩])
 (.seq (.seq (.region [⟨(some 5),3,.move,[.t 0],none⟩,
 ⟨(some 6),4,(.call true 321),[.t 5,.c (.int .u64 (4)),.c (.int .i64 (4))],none⟩,
 ⟨(some 7),8,.move,[.c (.int .i64 (0))],none⟩])
 (.block 0 (.loopT ((List (T_api_Label)) × Int × Int × ByteArray × Int × Int) (fun x => ⟨[.ptr 0 0,.dead,.dead,.slice (.own 2) 2 x.1.length (gl e_api_Label x.1),.dead,.dead,.int .i64 x.2.1,.int .i64 x.2.2.1,.dead,.dead,.dead,.dead,.dead,.dead,.dead,.dead,.dead,.dead,.dead,.dead,.dead],[(0,false,[.slice .ro 1 x.2.2.2.1.size (gstr x.2.2.2.1),.int .i64 x.2.2.2.2.1,.int .i64 x.2.2.2.2.2])],[(2,2,x.1.length)]⟩) 9 34 (.seq (.region [⟨(some 8),9,(.bin .lss),[.t 7,.t 6],none⟩])
 (.seq (.cond (.t 8) (.skip) (.exit 0))
 (.seq (.block 1 (.seq (.region [⟨(some 9),10,.move,[.t 0],none⟩,
 ⟨(some 10),11,(.call true 317),[.t 9],none⟩,
 ⟨(some 11),15,(.build [.str ByteArray.empty,.str ByteArray.empty] [(0,1)]),[.t 10],none⟩,
 ⟨(some 4),16,(.alloc [.str ByteArray.empty,.str ByteArray.empty]),[],none⟩,
 ⟨none,19,(.store 2),[.t 4,.t 11],none⟩])
 (.seq (.region [⟨(some 12),20,.move,[.t 0],none⟩,
 ⟨(some 13),21,(.call true 317),[.t 12],none⟩,
 ⟨(some 14),25,(.fieldAddr 1),[.t 4],none⟩,
 ⟨none,26,(.store 1),[.t 14,.t 13],none⟩])
 (.region [⟨(some 15),27,.move,[.t 3],none⟩,
 ⟨(some 16),28,(.load true 2),[.t 4],none⟩,
 ⟨(some 17),29,(.buildSlice 2 1 [.str ByteArray.empty,.str ByteArray.empty] [(0,2)]),[.t 16],none⟩,
 ⟨(some 18),30,(.append 2 32),[.t 15,.t 17],none⟩,
 ⟨(some 3),31,.move,[.t 18],none⟩]))))
 (.region [⟨(some 19),32,(.bin .add),[.t 7,.c (.int .i64 (1))],none⟩,
 ⟨(some 7),33,.move,[.t 19],none⟩])))))))
 (.seq (.region [⟨(some 20),34,.move,[.t 3],none⟩,
 ⟨(some 2),35,.move,[.t 20],none⟩])
 (.ret)))))
 [.tmp 2] 1 20
def f319.env : Env := [(321,f321.C),(317,f317.C)]
def f319.tree (a : T_model_reader) : Prop := ∃ c1 : T_model_reader × Int × Int,((4 : Int) = c1.2.1)∧((4 : Int) = c1.2.2)∧(a.1.size = c1.1.1.size)∧(∀ i,i < c1.1.1.size→DEqs ((gstr a.1) i) ((gstr c1.1.1) i))∧(a.2.1 = c1.1.2.1)∧(a.2.2 = c1.1.2.2)∧(rdNum_pre c1)∧∃ (I3 : ((List (T_api_Label)) × Int × Int × ByteArray × Int × Int)→Prop) (μ4 : ((List (T_api_Label)) × Int × Int × ByteArray × Int × Int)→Nat),(∃ x2 : (List (T_api_Label)) × Int × Int × ByteArray × Int × Int,(0 = x2.1.length)∧(∀ i,i < x2.1.length→DEqs (gnil i) ((gl e_api_Label x2.1) i))∧(((rdNum c1).1) = x2.2.1)∧((0 : Int) = x2.2.2.1)∧(((((rdNum c1).2).1).size) = x2.2.2.2.1.size)∧(∀ i,i < x2.2.2.2.1.size→DEqs ((gstr (((rdNum c1).2).1)) i) ((gstr x2.2.2.2.1) i))∧((((rdNum c1).2).2.1) = x2.2.2.2.2.1)∧((((rdNum c1).2).2.2) = x2.2.2.2.2.2)∧(0 = x2.1.length)∧I3 x2)∧∀ y5 : (List (T_api_Label)) × Int × Int × ByteArray × Int × Int,I3 y5→(Br (decide (y5.2.2.1 < y5.2.1)) (∃ c8 : T_model_reader,(y5.2.2.2.1.size = c8.1.size)∧(∀ i,i < c8.1.size→DEqs ((gstr y5.2.2.2.1) i) ((gstr c8.1) i))∧(y5.2.2.2.2.1 = c8.2.1)∧(y5.2.2.2.2.2 = c8.2.2)∧(rd_pre c8)∧∃ c9 : T_model_reader,(((((rdText c8).2).1).size) = c9.1.size)∧(∀ i,i < c9.1.size→DEqs ((gstr (((rdText c8).2).1)) i) ((gstr c9.1) i))∧((((rdText c8).2).2.1) = c9.2.1)∧((((rdText c8).2).2.2) = c9.2.2)∧(rd_pre c9)∧(y5.1.length = y5.1.length∧room ((y5.1.length + 1) * 32))∧(Let (IntKind.i64.wrap (y5.2.2.1 + (1 : Int))) (fun v10 : Int => ∃ x11 : (List (T_api_Label)) × Int × Int × ByteArray × Int × Int,((y5.1.length + 1) = x11.1.length)∧(∀ i,i < x11.1.length→DEqs ((gapp (gl e_api_Label y5.1) y5.1.length (fun _ => [.str ((rdText c8).1),.str ((rdText c9).1)])) i) ((gl e_api_Label x11.1) i))∧(y5.2.1 = x11.2.1)∧(v10 = x11.2.2.1)∧(((((rdText c9).2).1).size) = x11.2.2.2.1.size)∧(∀ i,i < x11.2.2.2.1.size→DEqs ((gstr (((rdText c9).2).1)) i) ((gstr x11.2.2.2.1) i))∧((((rdText c9).2).2.1) = x11.2.2.2.2.1)∧((((rdText c9).2).2.2) = x11.2.2.2.2.2)∧((y5.1.length + 1) = x11.1.length)∧I3 x11∧μ4 x11 < μ4 y5))) ((y5.1.length = y5.1.length)∧(y5.1.length = (((rdLbls a).1).length))∧(∀ i,i < (((rdLbls a).1).length)→DEqs ((gl e_api_Label y5.1) i) ((gl e_api_Label ((rdLbls a).1)) i))∧(y5.2.2.2.1.size = ((((rdLbls a).2).1).size))∧(∀ i,i < ((((rdLbls a).2).1).size)→DEqs ((gstr y5.2.2.2.1) i) ((gstr (((rdLbls a).2).1)) i))∧(y5.2.2.2.2.1 = (((rdLbls a).2).2.1))∧(y5.2.2.2.2.2 = (((rdLbls a).2).2.2))∧True))
def f319.vc (a : T_model_reader) : Prop := (rdNum_pre (a,(4 : Int),(4 : Int))∧(∃ (I3 : ((List (T_api_Label)) × Int × Int × ByteArray × Int × Int)→Prop) (μ4 : ((List (T_api_Label)) × Int × Int × ByteArray × Int × Int)→Nat),I3 ([],(rdNum (a,(4 : Int),(4 : Int))).1,(0 : Int),((rdNum (a,(4 : Int),(4 : Int))).2).1,((rdNum (a,(4 : Int),(4 : Int))).2).2.1,((rdNum (a,(4 : Int),(4 : Int))).2).2.2)∧∀ y5 : (List (T_api_Label)) × Int × Int × ByteArray × Int × Int,I3 y5→((y5.2.2.1 < y5.2.1→(rd_pre y5.2.2.2∧(rd_pre ((rdText (y5.2.2.2)).2)∧(y5.1.length + 1≤1073741824∧(-9223372036854775808≤(y5.2.2.1 + (1 : Int))∧(y5.2.2.1 + (1 : Int))≤9223372036854775807∧(I3 (y5.1 ++ ([((rdText (y5.2.2.2)).1,(rdText ((rdText (y5.2.2.2)).2)).1)]),y5.2.1,(y5.2.2.1 + (1 : Int)),((rdText ((rdText (y5.2.2.2)).2)).2).1,((rdText ((rdText (y5.2.2.2)).2)).2).2.1,((rdText ((rdText (y5.2.2.2)).2)).2).2.2)∧μ4 (y5.1 ++ ([((rdText (y5.2.2.2)).1,(rdText ((rdText (y5.2.2.2)).2)).1)]),y5.2.1,(y5.2.2.1 + (1 : Int)),((rdText ((rdText (y5.2.2.2)).2)).2).1,((rdText ((rdText (y5.2.2.2)).2)).2).2.1,((rdText ((rdText (y5.2.2.2)).2)).2).2.2) < μ4 y5))))))∧(¬ (y5.2.2.1 < y5.2.1)→((y5.1,y5.2.2.2) = rdLbls a)))))
set_option maxRecDepth 100000 in
set_option maxHeartbeats 2000000 in
theorem f319.of (a : T_model_reader) (h : f319.vc a) : f319.tree a := ⟨(a,(4 : Int),(4 : Int)),⟨rfl,⟨rfl,slK RdB.self (⟨rfl,⟨rfl,⟨h.1,Exists.elim h.2 (fun I3 h21_ => Exists.elim h21_ (fun μ4 h21 => ⟨I3,μ4,⟨([],(rdNum (a,(4 : Int),(4 : Int))).1,(0 : Int),((rdNum (a,(4 : Int),(4 : Int))).2).1,((rdNum (a,(4 : Int),(4 : Int))).2).2.1,((rdNum (a,(4 : Int),(4 : Int))).2).2.2),slK (Rds.nil (enc := e_api_Label)) (⟨rfl,⟨rfl,slK RdB.self (⟨rfl,⟨rfl,⟨(numR gnil (Rds.nil (enc := e_api_Label))),h21.1⟩⟩⟩)⟩⟩)⟩,fun y5 h23 => br (h21.2 y5 h23) Cnd.dec (fun h6 k19 => ⟨y5.2.2.2,slK RdB.self (⟨rfl,⟨rfl,⟨k19.1,⟨((rdText (y5.2.2.2)).2),slK RdB.self (⟨rfl,⟨rfl,⟨k19.2.1,⟨⟨rfl,(room_of k19.2.2.1 (by decide))⟩,wrapK.i64 k19.2.2.2 (fun h13 h14 k15 => ⟨(y5.1 ++ ([((rdText (y5.2.2.2)).1,(rdText ((rdText (y5.2.2.2)).2)).1)]),y5.2.1,(y5.2.2.1 + (1 : Int)),((rdText ((rdText (y5.2.2.2)).2)).2).1,((rdText ((rdText (y5.2.2.2)).2)).2).2.1,((rdText ((rdText (y5.2.2.2)).2)).2).2.2),slK (Rds.app (enc := e_api_Label) (Rds.self (enc := e_api_Label)) (Rds.one (enc := e_api_Label) (DEqs.refl _))) (⟨rfl,⟨rfl,slK RdB.self (⟨rfl,⟨rfl,⟨(numR (gapp (gl e_api_Label y5.1) y5.1.length (fun _ => [.str ((rdText (y5.2.2.2)).1),.str ((rdText ((rdText (y5.2.2.2)).2)).1)])) (Rds.app (enc := e_api_Label) (Rds.self (enc := e_api_Label)) (Rds.one (enc := e_api_Label) (DEqs.refl _)))),k15⟩⟩⟩)⟩⟩)⟩)⟩⟩⟩⟩)⟩⟩⟩⟩)⟩) (fun h7 k20 => ⟨rfl,slK (Rds.to (Rds.self (enc := e_api_Label)) (congrArg (fun x : (List (T_api_Label)) × T_model_reader => x.1) k20 :)) (slK (RdB.to RdB.self (congrArg (fun x : (List (T_api_Label)) × T_model_reader => x.2.1) k20 :)) (⟨(congrArg (fun x : (List (T_api_Label)) × T_model_reader => x.2.2.1) k20 :),⟨(congrArg (fun x : (List (T_api_Label)) × T_model_reader => x.2.2.2) k20 :),trivial⟩⟩))⟩)⟩))⟩⟩⟩)⟩⟩⟩
theorem f319.eq (a : T_model_reader) : (f319.af a).gives f319.env (f319.args a) (f319.blks a) (f319.res a) (f319.blks' a) = f319.tree a := by kernel_rfl
end Go.Abs

-- (*interregnum/interregnumref05.Reader).labels
namespace Go.Abs
open Go
def f325.args (a : T_interregnumref05_Reader) : List D := [.ptr 0 0]
def f325.blks (a : T_interregnumref05_Reader) : List (List D) := [[.str a.1,.int .i64 a.2.1,.int .i64 a.2.2]]
def f325.res (a : T_interregnumref05_Reader) : List D := [.slice .ro 2 (((rfLbls a).1).length) (gl e_api_Label ((rfLbls a).1))]
def f325.blks' (a : T_interregnumref05_Reader) : List (List D) := [[.str (((rfLbls a).2).1),.int .i64 (((rfLbls a).2).2.1),.int .i64 (((rfLbls a).2).2.2)]]
def f325.C : Contract := FnC f325.args f325.blks (fun a => rd_pre a) f325.res f325.blks'
end Go.Abs

/- (*interregnum/interregnumref05.Reader).labels -/
namespace Go.Abs
open Go
set_option linter.unusedVariables false
def f325.kills (a : T_interregnumref05_Reader) : List Hint := [.tell ((List (T_api_Label)) × Int × Int × ByteArray × Int × Int) (fun x => ⟨[.ptr 0 0,.dead,.dead,.slice (.own 2) 2 x.1.length (gl e_api_Label x.1),.int .i64 x.2.1,.int .i64 x.2.2.1,.dead,.dead,.dead,.dead,.dead,.dead,.dead,.dead,.dead,.dead,.dead,.dead,.dead,.dead,.dead,.dead,.dead,.dead,.dead,.dead],[(0,false,[.str x.2.2.2.1,.int .i64 x.2.2.2.2.1,.int .i64 x.2.2.2.2.2])],[(2,2,x.1.length)]⟩)]
def f325.cuts (a : T_interregnumref05_Reader) : List (Nat × Σ β : Type,β→Tm) := []
def f325.af (a : T_interregnumref05_Reader) : AF := AF.mk (.seq (.region [⟨(some 2),1,(.nilSl 2),[],none⟩])
 (.seq (.region [⟨(some 3),2,(.nilSl 2),[],none⟩])
 (.seq (.region [⟨(some 8),3,.move,[.t 0],none⟩,
 ⟨(some 9),4,(.call true 327),[.t 8,.c (.int .i64 (4)),.c (.int .i64 (4))],none⟩,
 ⟨(some 4),8,.move,[.t 9],none⟩])
 (.seq (.seq (.region [⟨(some 5),9,.move,[.c (.int .i64 (0))],none⟩])
 (.block 0 (.loopT ((List (T_api_Label)) × Int × Int × ByteArray × Int × Int) (fun x => ⟨[.ptr 0 0,.dead,.dead,.slice (.own 2) 2 x.1.length (gl e_api_Label x.1),.int .i64 x.2.1,.int .i64 x.2.2.1,.dead,.dead,.dead,.dead,.dead,.dead,.dead,.dead,.dead,.dead,.dead,.dead,.dead,.dead,.dead,.dead,.dead,.dead,.dead,.dead],[(0,false,[.str x.2.2.2.1,.int .i64 x.2.2.2.2.1,.int .i64 x.2.2.2.2.2])],[(2,2,x.1.length)]⟩) 10 35 (.seq (.seq (.region [⟨(some 10),10,.move,[.t 5],none⟩,
 ⟨(some 11),11,.move,[.t 4],none⟩,
 ⟨(some 12),12,(.bin .lss),[.t 10,.t 11],none⟩])
 (.cond (.t 12) (.skip) (.exit 0)))
 (.seq (.block 1 (.seq (.region [⟨(some 15),13,.move,[.t 0],none⟩,
 ⟨(some 16),14,(.call true 323),[.t 15,.c (.int .i64 (16))],none⟩,
 ⟨(some 6),18,.move,[.t 16],none⟩])
 (.seq (.region [⟨(some 17),19,.move,[.t 0],none⟩,
 ⟨(some 18),20,(.call true 323),[.t 17,.c (.int .i64 (16))],none⟩,
 ⟨(some 7),24,.move,[.t 18],none⟩])
 (.region [⟨(some 19),25,.move,[.t 3],none⟩,
 ⟨(some 20),26,.move,[.t 6],none⟩,
 ⟨(some 21),27,.move,[.t 7],none⟩,
 ⟨(some 22),28,(.build [.str ByteArray.empty,.str ByteArray.empty] [(0,1),(1,1)]),[.t 20,.t 21],none⟩,
 ⟨(some 23),29,(.buildSlice 2 1 [.str ByteArray.empty,.str ByteArray.empty] [(0,2)]),[.t 22],none⟩,
 ⟨(some 24),30,(.append 2 32),[.t 19,.t 23],none⟩,
 ⟨(some 3),31,.move,[.t 24],none⟩]))))
 (.region [⟨(some 13),32,.move,[.t 5],none⟩,
 ⟨(some 14),33,(.bin .add),[.t 13,.c (.int .i64 (1))],none⟩,
 ⟨(some 5),34,.move,[.t 14],none⟩]))))))
 (.seq (.region [⟨(some 25),35,.move,[.t 3],none⟩,
 ⟨(some 2),36,.move,[.t 25],none⟩])
 (.ret))))))
 [.tmp 2] 1 25
def f325.env : Env := [(327,f327.C),(323,f323.C)]
def f325.tree (a : T_interregnumref05_Reader) : Prop := ∃ c1 : T_interregnumref05_Reader × Int × Int,((4 : Int) = c1.2.1)∧((4 : Int) = c1.2.2)∧(a.1 = c1.1.1)∧(a.2.1 = c1.1.2.1)∧(a.2.2 = c1.1.2.2)∧(rdNum_pre c1)∧∃ (I3 : ((List (T_api_Label)) × Int × Int × ByteArray × Int × Int)→Prop) (μ4 : ((List (T_api_Label)) × Int × Int × ByteArray × Int × Int)→Nat),(∃ x2 : (List (T_api_Label)) × Int × Int × ByteArray × Int × Int,(0 = x2.1.length)∧(∀ i,i < x2.1.length→DEqs (gnil i) ((gl e_api_Label x2.1) i))∧(((rdNum c1).1) = x2.2.1)∧((0 : Int) = x2.2.2.1)∧((((rdNum c1).2).1) = x2.2.2.2.1)∧((((rdNum c1).2).2.1) = x2.2.2.2.2.1)∧((((rdNum c1).2).2.2) = x2.2.2.2.2.2)∧(0 = x2.1.length)∧I3 x2)∧∀ y5 : (List (T_api_Label)) × Int × Int × ByteArray × Int × Int,I3 y5→(Br (decide (y5.2.2.1 < y5.2.1)) (∃ c8 : T_interregnumref05_Reader × Int,((16 : Int) = c8.2)∧(y5.2.2.2.1 = c8.1.1)∧(y5.2.2.2.2.1 = c8.1.2.1)∧(y5.2.2.2.2.2 = c8.1.2.2)∧(rfText_pre c8)∧∃ c9 : T_interregnumref05_Reader × Int,((16 : Int) = c9.2)∧((((rfText c8).2).1) = c9.1.1)∧((((rfText c8).2).2.1) = c9.1.2.1)∧((((rfText c8).2).2.2) = c9.1.2.2)∧(rfText_pre c9)∧(y5.1.length = y5.1.length∧room ((y5.1.length + 1) * 32))∧(Let (IntKind.i64.wrap (y5.2.2.1 + (1 : Int))) (fun v10 : Int => ∃ x11 : (List (T_api_Label)) × Int × Int × ByteArray × Int × Int,((y5.1.length + 1) = x11.1.length)∧(∀ i,i < x11.1.length→DEqs ((gapp (gl e_api_Label y5.1) y5.1.length (fun _ => [.str ((rfText c8).1),.str ((rfText c9).1)])) i) ((gl e_api_Label x11.1) i))∧(y5.2.1 = x11.2.1)∧(v10 = x11.2.2.1)∧((((rfText c9).2).1) = x11.2.2.2.1)∧((((rfText c9).2).2.1) = x11.2.2.2.2.1)∧((((rfText c9).2).2.2) = x11.2.2.2.2.2)∧((y5.1.length + 1) = x11.1.length)∧I3 x11∧μ4 x11 < μ4 y5))) ((y5.1.length = y5.1.length)∧(y5.1.length = (((rfLbls a).1).length))∧(∀ i,i < (((rfLbls a).1).length)→DEqs ((gl e_api_Label y5.1) i) ((gl e_api_Label ((rfLbls a).1)) i))∧(y5.2.2.2.1 = (((rfLbls a).2).1))∧(y5.2.2.2.2.1 = (((rfLbls a).2).2.1))∧(y5.2.2.2.2.2 = (((rfLbls a).2).2.2))∧True))
def f325.vc (a : T_interregnumref05_Reader) : Prop := (rdNum_pre (a,(4 : Int),(4 : Int))∧(∃ (I3 : ((List (T_api_Label)) × Int × Int × ByteArray × Int × Int)→Prop) (μ4 : ((List (T_api_Label)) × Int × Int × ByteArray × Int × Int)→Nat),I3 ([],(rdNum (a,(4 : Int),(4 : Int))).1,(0 : Int),((rdNum (a,(4 : Int),(4 : Int))).2).1,((rdNum (a,(4 : Int),(4 : Int))).2).2.1,((rdNum (a,(4 : Int),(4 : Int))).2).2.2)∧∀ y5 : (List (T_api_Label)) × Int × Int × ByteArray × Int × Int,I3 y5→((y5.2.2.1 < y5.2.1→(rfText_pre (y5.2.2.2,(16 : Int))∧(rfText_pre (((rfText (y5.2.2.2,(16 : Int))).2),(16 : Int))∧(y5.1.length + 1≤1073741824∧(-9223372036854775808≤(y5.2.2.1 + (1 : Int))∧(y5.2.2.1 + (1 : Int))≤9223372036854775807∧(I3 (y5.1 ++ ([((rfText (y5.2.2.2,(16 : Int))).1,(rfText (((rfText (y5.2.2.2,(16 : Int))).2),(16 : Int))).1)]),y5.2.1,(y5.2.2.1 + (1 : Int)),((rfText (((rfText (y5.2.2.2,(16 : Int))).2),(16 : Int))).2).1,((rfText (((rfText (y5.2.2.2,(16 : Int))).2),(16 : Int))).2).2.1,((rfText (((rfText (y5.2.2.2,(16 : Int))).2),(16 : Int))).2).2.2)∧μ4 (y5.1 ++ ([((rfText (y5.2.2.2,(16 : Int))).1,(rfText (((rfText (y5.2.2.2,(16 : Int))).2),(16 : Int))).1)]),y5.2.1,(y5.2.2.1 + (1 : Int)),((rfText (((rfText (y5.2.2.2,(16 : Int))).2),(16 : Int))).2).1,((rfText (((rfText (y5.2.2.2,(16 : Int))).2),(16 : Int))).2).2.1,((rfText (((rfText (y5.2.2.2,(16 : Int))).2),(16 : Int))).2).2.2) < μ4 y5))))))∧(¬ (y5.2.2.1 < y5.2.1)→((y5.1,y5.2.2.2) = rfLbls a)))))
set_option maxRecDepth 100000 in
set_option maxHeartbeats 2000000 in
theorem f325.of (a : T_interregnumref05_Reader) (h : f325.vc a) : f325.tree a := ⟨(a,(4 : Int),(4 : Int)),⟨rfl,⟨rfl,⟨rfl,⟨rfl,⟨rfl,⟨h.1,Exists.elim h.2 (fun I3 h21_ => Exists.elim h21_ (fun μ4 h21 => ⟨I3,μ4,⟨([],(rdNum (a,(4 : Int),(4 : Int))).1,(0 : Int),((rdNum (a,(4 : Int),(4 : Int))).2).1,((rdNum (a,(4 : Int),(4 : Int))).2).2.1,((rdNum (a,(4 : Int),(4 : Int))).2).2.2),slK (Rds.nil (enc := e_api_Label)) (⟨rfl,⟨rfl,⟨rfl,⟨rfl,⟨rfl,⟨(numR gnil (Rds.nil (enc := e_api_Label))),h21.1⟩⟩⟩⟩⟩⟩)⟩,fun y5 h23 => br (h21.2 y5 h23) Cnd.dec (fun h6 k19 => ⟨(y5.2.2.2,(16 : Int)),⟨rfl,⟨rfl,⟨rfl,⟨rfl,⟨k19.1,⟨(((rfText (y5.2.2.2,(16 : Int))).2),(16 : Int)),⟨rfl,⟨rfl,⟨rfl,⟨rfl,⟨k19.2.1,⟨⟨rfl,(room_of k19.2.2.1 (by decide))⟩,wrapK.i64 k19.2.2.2 (fun h13 h14 k15 => ⟨(y5.1 ++ ([((rfText (y5.2.2.2,(16 : Int))).1,(rfText (((rfText (y5.2.2.2,(16 : Int))).2),(16 : Int))).1)]),y5.2.1,(y5.2.2.1 + (1 : Int)),((rfText (((rfText (y5.2.2.2,(16 : Int))).2),(16 : Int))).2).1,((rfText (((rfText (y5.2.2.2,(16 : Int))).2),(16 : Int))).2).2.1,((rfText (((rfText (y5.2.2.2,(16 : Int))).2),(16 : Int))).2).2.2),slK (Rds.app (enc := e_api_Label) (Rds.self (enc := e_api_Label)) (Rds.one (enc := e_api_Label) (DEqs.refl _))) (⟨rfl,⟨rfl,⟨rfl,⟨rfl,⟨rfl,⟨(numR (gapp (gl e_api_Label y5.1) y5.1.length (fun _ => [.str ((rfText (y5.2.2.2,(16 : Int))).1),.str ((rfText (((rfText (y5.2.2.2,(16 : Int))).2),(16 : Int))).1)])) (Rds.app (enc := e_api_Label) (Rds.self (enc := e_api_Label)) (Rds.one (enc := e_api_Label) (DEqs.refl _)))),k15⟩⟩⟩⟩⟩⟩)⟩)⟩⟩⟩⟩⟩⟩⟩⟩⟩⟩⟩⟩⟩) (fun h7 k20 => ⟨rfl,slK (Rds.to (Rds.self (enc := e_api_Label)) (congrArg (fun x : (List (T_api_Label)) × T_interregnumref05_Reader => x.1) k20 :)) (⟨(congrArg (fun x : (List (T_api_Label)) × T_interregnumref05_Reader => x.2.1) k20 :),⟨(congrArg (fun x : (List (T_api_Label)) × T_interregnumref05_Reader => x.2.2.1) k20 :),⟨(congrArg (fun x : (List (T_api_Label)) × T_interregnumref05_Reader => x.2.2.2) k20 :),trivial⟩⟩⟩)⟩)⟩))⟩⟩⟩⟩⟩⟩⟩
theorem f325.eq (a : T_interregnumref05_Reader) : (f325.af a).gives f325.env (f325.args a) (f325.blks a) (f325.res a) (f325.blks' a) = f325.tree a := by kernel_rfl
end Go.Abs

-- (*interregnum/model.reader).end
namespace Go.Abs
open Go
def f320.args (a : T_model_reader × Bool) : List D := [.ptr 0 0,.bool a.2]
def f320.blks (a : T_model_reader × Bool) : List (List D) := [[.slice .ro 1 a.1.1.size (gstr a.1.1),.int .i64 a.1.2.1,.int .i64 a.1.2.2]]
def f320.res (a : T_model_reader × Bool) : List D := [.int .i64 ((rdEnd a).1),.int .i64 ((rdEnd a).2.1)]
def f320.blks' (a : T_model_reader × Bool) : List (List D) := [[.slice .ro 1 ((((rdEnd a).2.2).1).size) (gstr (((rdEnd a).2.2).1)),.int .i64 (((rdEnd a).2.2).2.1),.int .i64 (((rdEnd a).2.2).2.2)]]
def f320.C : Contract := FnC f320.args f320.blks (fun _ => True) f320.res f320.blks'
end Go.Abs

/- (*interregnum/model.reader).end -/
namespace Go.Abs
open Go
set_option linter.unusedVariables false
def f320.kills (a : T_model_reader × Bool) : List Hint := []
def f320.cuts (a : T_model_reader × Bool) : List (Nat × Σ β : Type,β→Tm) := []
def f320.af (a : T_model_reader × Bool) : AF := AF.mk (.seq (.region [⟨(some 4),1,.move,[.c (.int .i64 (0))],none⟩,
 ⟨(some 5),2,.move,[.c (.int .i64 (0))],none⟩])
 (.seq (.block 0 (.seq (.region [⟨(some 7),3,.move,[.t 0],none⟩,
 ⟨(some 8),4,.nilCheck,[.t 7],none⟩,
 ⟨(some 9),5,(.fieldAddr 2),[.t 8],none⟩,
 ⟨(some 10),6,(.load false 1),[.t 9],none⟩,
 ⟨(some 11),7,(.bin .neq),[.t 10,.c (.int .i64 (0))],none⟩,
 ⟨(some 6),8,.move,[.t 11],none⟩])
 (.cond (.t 6) (.seq (.region [⟨(some 12),9,.move,[.t 0],none⟩,
 ⟨(some 13),10,.nilCheck,[.t 12],none⟩,
 ⟨(some 14),11,(.fieldAddr 2),[.t 13],none⟩,
 ⟨(some 15),12,(.load false 1),[.t 14],none⟩,
 ⟨(some 4),13,.move,[.c (.int .i64 (0))],none⟩,
 ⟨(some 5),14,.move,[.t 15],none⟩])
 (.ret)) (.seq (.region [⟨(some 17),15,.move,[.t 1],none⟩,
 ⟨(some 18),16,(.un .not),[.t 17],none⟩,
 ⟨(some 16),17,.move,[.t 18],none⟩])
 (.cond (.t 16) (.seq (.region [⟨(some 4),18,.move,[.c (.int .i64 (0))],none⟩,
 ⟨(some 5),19,.move,[.c (.int .i64 (3))],none⟩])
 (.ret)) (.skip))))))
 (.seq (.region [⟨(some 19),20,.move,[.t 0],none⟩,
 ⟨(some 20),21,.nilCheck,[.t 19],none⟩,
 ⟨(some 21),22,(.fieldAddr 1),[.t 20],none⟩,
 ⟨(some 22),23,(.load false 1),[.t 21],none⟩,
 ⟨(some 4),24,.move,[.t 22],none⟩,
 ⟨(some 5),25,.move,[.c (.int .i64 (0))],none⟩])
 (.ret))))
 [.tmp 4,.tmp 5] 1 21
def f320.env : Env := []
def f320.tree (a : T_model_reader × Bool) : Prop := Br (a.1.2.2 != (0 : Int)) (((0 : Int) = ((rdEnd a).1))∧(a.1.2.2 = ((rdEnd a).2.1))∧(a.1.1.size = ((((rdEnd a).2.2).1).size))∧(∀ i,i < ((((rdEnd a).2.2).1).size)→DEqs ((gstr a.1.1) i) ((gstr (((rdEnd a).2.2).1)) i))∧(a.1.2.1 = (((rdEnd a).2.2).2.1))∧(a.1.2.2 = (((rdEnd a).2.2).2.2))∧True) (Br (!a.2) (((0 : Int) = ((rdEnd a).1))∧((3 : Int) = ((rdEnd a).2.1))∧(a.1.1.size = ((((rdEnd a).2.2).1).size))∧(∀ i,i < ((((rdEnd a).2.2).1).size)→DEqs ((gstr a.1.1) i) ((gstr (((rdEnd a).2.2).1)) i))∧(a.1.2.1 = (((rdEnd a).2.2).2.1))∧(a.1.2.2 = (((rdEnd a).2.2).2.2))∧True) ((a.1.2.1 = ((rdEnd a).1))∧((0 : Int) = ((rdEnd a).2.1))∧(a.1.1.size = ((((rdEnd a).2.2).1).size))∧(∀ i,i < ((((rdEnd a).2.2).1).size)→DEqs ((gstr a.1.1) i) ((gstr (((rdEnd a).2.2).1)) i))∧(a.1.2.1 = (((rdEnd a).2.2).2.1))∧(a.1.2.2 = (((rdEnd a).2.2).2.2))∧True))
def f320.vc (a : T_model_reader × Bool) : Prop := ((¬ a.1.2.2 = (0 : Int)→(((0 : Int),a.1.2.2,a.1) = rdEnd a))∧(¬ (¬ a.1.2.2 = (0 : Int))→((¬ (a.2 = true)→(((0 : Int),(3 : Int),a.1) = rdEnd a))∧(¬ (¬ (a.2 = true))→((a.1.2.1,(0 : Int),a.1) = rdEnd a)))))
set_option maxRecDepth 100000 in
set_option maxHeartbeats 2000000 in
theorem f320.of (a : T_model_reader × Bool) (h : f320.vc a) : f320.tree a := br h Cnd.ne (fun h1 k10 => ⟨(congrArg (fun x : Int × Int × T_model_reader => x.1) k10 :),⟨(congrArg (fun x : Int × Int × T_model_reader => x.2.1) k10 :),slK (RdB.to RdB.self (congrArg (fun x : Int × Int × T_model_reader => x.2.2.1) k10 :)) (⟨(congrArg (fun x : Int × Int × T_model_reader => x.2.2.2.1) k10 :),⟨(congrArg (fun x : Int × Int × T_model_reader => x.2.2.2.2) k10 :),trivial⟩⟩)⟩⟩) (fun h2 k11 => br k11 (Cnd.not Cnd.b) (fun h4 k8 => ⟨(congrArg (fun x : Int × Int × T_model_reader => x.1) k8 :),⟨(congrArg (fun x : Int × Int × T_model_reader => x.2.1) k8 :),slK (RdB.to RdB.self (congrArg (fun x : Int × Int × T_model_reader => x.2.2.1) k8 :)) (⟨(congrArg (fun x : Int × Int × T_model_reader => x.2.2.2.1) k8 :),⟨(congrArg (fun x : Int × Int × T_model_reader => x.2.2.2.2) k8 :),trivial⟩⟩)⟩⟩) (fun h5 k9 => ⟨(congrArg (fun x : Int × Int × T_model_reader => x.1) k9 :),⟨(congrArg (fun x : Int × Int × T_model_reader => x.2.1) k9 :),slK (RdB.to RdB.self (congrArg (fun x : Int × Int × T_model_reader => x.2.2.1) k9 :)) (⟨(congrArg (fun x : Int × Int × T_model_reader => x.2.2.2.1) k9 :),⟨(congrArg (fun x : Int × Int × T_model_reader => x.2.2.2.2) k9 :),trivial⟩⟩)⟩⟩))
theorem f320.eq (a : T_model_reader × Bool) : (f320.af a).gives f320.env (f320.args a) (f320.blks a) (f320.res a) (f320.blks' a) = f320.tree a := by kernel_rfl
end Go.Abs

-- (*interregnum/interregnumref05.Reader).done
namespace Go.Abs
open Go
def f326.args (a : T_interregnumref05_Reader × Bool) : List D := [.ptr 0 0,.bool a.2]
def f326.blks (a : T_interregnumref05_Reader × Bool) : List (List D) := [[.str a.1.1,.int .i64 a.1.2.1,.int .i64 a.1.2.2]]
def f326.res (a : T_interregnumref05_Reader × Bool) : List D := [.bool ((rfDone a).1)]
def f326.blks' (a : T_interregnumref05_Reader × Bool) : List (List D) := [[.str (((rfDone a).2).1),.int .i64 (((rfDone a).2).2.1),.int .i64 (((rfDone a).2).2.2)]]
def f326.C : Contract := FnC f326.args f326.blks (fun _ => True) f326.res f326.blks'
end Go.Abs

/- (*interregnum/interregnumref05.Reader).done -/
namespace Go.Abs
open Go
set_option linter.unusedVariables false
def f326.kills (a : T_interregnumref05_Reader × Bool) : List Hint := []
def f326.cuts (a : T_interregnumref05_Reader × Bool) : List (Nat × Σ β : Type,β→Tm) := []
def f326.af (a : T_interregnumref05_Reader × Bool) : AF := AF.mk (.seq (.region [⟨(some 4),1,.move,[.c (.bool false)],none⟩])
 (.seq (.seq (.region [⟨(some 5),2,.move,[.t 0],none⟩,
 ⟨(some 6),3,.nilCheck,[.t 5],none⟩,
 ⟨(some 7),4,(.fieldAddr 2),[.t 6],none⟩,
 ⟨(some 8),5,(.load false 1),[.t 7],none⟩,
 ⟨(some 9),6,(.bin .eql),[.t 8,.c (.int .i64 (0))],none⟩,
 ⟨(some 10),7,.move,[.t 9],none⟩,
 ⟨(some 11),8,.move,[.t 1],(some (10,true))⟩,
 ⟨(some 12),9,(.un .not),[.t 11],(some (10,true))⟩,
 ⟨(some 13),10,.pick,[.t 10,.t 12,.c (.bool false)],none⟩])
 (.cond (.t 13) (.region [⟨(some 14),11,.move,[.t 0],none⟩,
 ⟨(some 15),12,.nilCheck,[.t 14],none⟩,
 ⟨(some 16),13,(.fieldAddr 2),[.t 15],none⟩,
 ⟨none,14,(.store 1),[.t 16,.c (.int .i64 (3))],none⟩]) (.skip)))
 (.seq (.region [⟨(some 17),15,.move,[.t 0],none⟩,
 ⟨(some 18),16,.nilCheck,[.t 17],none⟩,
 ⟨(some 19),17,(.fieldAddr 2),[.t 18],none⟩,
 ⟨(some 20),18,(.load false 1),[.t 19],none⟩,
 ⟨(some 21),19,(.bin .eql),[.t 20,.c (.int .i64 (0))],none⟩,
 ⟨(some 4),20,.move,[.t 21],none⟩])
 (.ret))))
 [.tmp 4] 1 20
def f326.env : Env := []
def f326.tree (a : T_interregnumref05_Reader × Bool) : Prop := Br (a.1.2.2 == (0 : Int)) (Br (!a.2) ((false = ((rfDone a).1))∧(a.1.1 = (((rfDone a).2).1))∧(a.1.2.1 = (((rfDone a).2).2.1))∧((3 : Int) = (((rfDone a).2).2.2))∧True) (((a.1.2.2 == (0 : Int)) = ((rfDone a).1))∧(a.1.1 = (((rfDone a).2).1))∧(a.1.2.1 = (((rfDone a).2).2.1))∧(a.1.2.2 = (((rfDone a).2).2.2))∧True)) (((a.1.2.2 == (0 : Int)) = ((rfDone a).1))∧(a.1.1 = (((rfDone a).2).1))∧(a.1.2.1 = (((rfDone a).2).2.1))∧(a.1.2.2 = (((rfDone a).2).2.2))∧True)
def f326.vc (a : T_interregnumref05_Reader × Bool) : Prop := ((a.1.2.2 = (0 : Int)→((¬ (a.2 = true)→((false,(a.1.1,a.1.2.1,(3 : Int))) = rfDone a))∧(¬ (¬ (a.2 = true))→(((a.1.2.2 == (0 : Int)),a.1) = rfDone a))))∧(¬ (a.1.2.2 = (0 : Int))→(((a.1.2.2 == (0 : Int)),a.1) = rfDone a)))
set_option maxRecDepth 100000 in
set_option maxHeartbeats 2000000 in
theorem f326.of (a : T_interregnumref05_Reader × Bool) (h : f326.vc a) : f326.tree a := br h Cnd.eq (fun h1 k10 => br k10 (Cnd.not Cnd.b) (fun h3 k7 => ⟨(congrArg (fun x : Bool × T_interregnumref05_Reader => x.1) k7 :),⟨(congrArg (fun x : Bool × T_interregnumref05_Reader => x.2.1) k7 :),⟨(congrArg (fun x : Bool × T_interregnumref05_Reader => x.2.2.1) k7 :),⟨(congrArg (fun x : Bool × T_interregnumref05_Reader => x.2.2.2) k7 :),trivial⟩⟩⟩⟩) (fun h4 k8 => ⟨(congrArg (fun x : Bool × T_interregnumref05_Reader => x.1) k8 :),⟨(congrArg (fun x : Bool × T_interregnumref05_Reader => x.2.1) k8 :),⟨(congrArg (fun x : Bool × T_interregnumref05_Reader => x.2.2.1) k8 :),⟨(congrArg (fun x : Bool × T_interregnumref05_Reader => x.2.2.2) k8 :),trivial⟩⟩⟩⟩)) (fun h2 k11 => ⟨(congrArg (fun x : Bool × T_interregnumref05_Reader => x.1) k11 :),⟨(congrArg (fun x : Bool × T_interregnumref05_Reader => x.2.1) k11 :),⟨(congrArg (fun x : Bool × T_interregnumref05_Reader => x.2.2.1) k11 :),⟨(congrArg (fun x : Bool × T_interregnumref05_Reader => x.2.2.2) k11 :),trivial⟩⟩⟩⟩)
theorem f326.eq (a : T_interregnumref05_Reader × Bool) : (f326.af a).gives f326.env (f326.args a) (f326.blks a) (f326.res a) (f326.blks' a) = f326.tree a := by kernel_rfl
end Go.Abs

-- interregnum/model.TakeNode
namespace Go.Abs
open Go
def f284.args (a : ByteArray × Int) : List D := [.slice .ro 1 a.1.size (gstr a.1),.int .i64 a.2]
def f284.blks (a : ByteArray × Int) : List (List D) := []
def f284.res (a : ByteArray × Int) : List D := [.agg [.str (((takeNode a).1).1),.int .i64 ((((takeNode a).1).2.1).1),.int .i64 ((((takeNode a).1).2.1).2.1),.int .i64 ((((takeNode a).1).2.1).2.2),.slice .ro 2 ((((takeNode a).1).2.2).length) (gl e_api_Label (((takeNode a).1).2.2))],.int .i64 ((takeNode a).2.1),.int .i64 ((takeNode a).2.2)]
def f284.blks' (a : ByteArray × Int) : List (List D) := []
def f284.C : Contract := FnC f284.args f284.blks (fun a => takes_pre a) f284.res f284.blks'
end Go.Abs

/- interregnum/model.TakeNode -/
namespace Go.Abs
open Go
set_option linter.unusedVariables false
def f284.kills (a : ByteArray × Int) : List Hint := []
def f284.cuts (a : ByteArray × Int) : List (Nat × Σ β : Type,β→Tm) := []
def f284.af (a : ByteArray × Int) : AF := AF.mk (.seq (.region [⟨(some 4),0,(.alloc [.str ByteArray.empty,.int .i64 (0),.int .i64 (0),.int .i64 (0),.slice (.own 0) 2 0 gnil]),[],none⟩,
 ⟨(some 5),6,.move,[.c (.int .i64 (0))],none⟩,
 ⟨(some 6),7,.move,[.c (.int .i64 (0))],none⟩])
 (.seq (.region [⟨(some 11),8,.move,[.t 0],none⟩,
 ⟨(some 12),9,.move,[.t 1],none⟩,
 ⟨(some 13),10,(.build [.slice .full 1 0 gnil,.int .i64 (0),.int .i64 (0)] [(0,1),(1,1)]),[.t 11,.t 12],none⟩,
 ⟨(some 14),11,.box,[.t 13],none⟩,
 ⟨(some 7),12,.move,[.t 14],none⟩])
 (.seq (.region [⟨(some 15),13,.move,[.t 7],none⟩,
 ⟨(some 16),14,(.call true 317),[.t 15],none⟩,
 ⟨(some 17),18,(.build [.str ByteArray.empty,.int .i64 (0),.int .i64 (0),.int .i64 (0),.slice .full 2 0 gnil] [(0,1)]),[.t 16],none⟩,
 ⟨(some 8),19,(.alloc [.str ByteArray.empty,.int .i64 (0),.int .i64 (0),.int .i64 (0),.slice (.own 0) 2 0 gnil]),[],none⟩,
 ⟨none,25,(.store 5),[.t 8,.t 17],none⟩])
 (.seq (.region [⟨(some 18),26,.move,[.t 7],none⟩,
 ⟨(some 19),27,(.call true 318),[.t 18],none⟩,
 ⟨(some 20),31,(.fieldAddr 1),[.t 8],none⟩,
 ⟨none,32,(.store 3),[.t 20,.t 19],none⟩])
 (.seq (.region [⟨(some 21),33,.move,[.t 7],none⟩,
 ⟨(some 22),34,(.call true 319),[.t 21],none⟩,
 ⟨(some 23),38,(.fieldAddr 4),[.t 8],none⟩,
 ⟨none,39,(.store 1),[.t 23,.t 22],none⟩])
 (.seq (.region [⟨(some 25),40,.move,[.t 7],none⟩,
 ⟨(some 26),41,(.load true 5),[.t 8],none⟩,
 ⟨(some 27),42,(.call false 35),[.t 26],none⟩,
 ⟨(some 28),46,(.call true 320),[.t 25,.t 27],none⟩,
 ⟨(some 24),50,.move,[.t 28],none⟩,
 ⟨(some 29),51,(.extract 0),[.t 24],none⟩,
 ⟨(some 30),52,(.extract 1),[.t 24],none⟩,
 ⟨(some 9),53,.move,[.t 29],none⟩,
 ⟨(some 10),54,.move,[.t 30],none⟩])
 (.seq (.seq (.region [⟨(some 31),55,.move,[.t 10],none⟩,
 ⟨(some 32),56,(.bin .neq),[.t 31,.c (.int .i64 (0))],none⟩])
 (.cond (.t 32) (.seq (.region [⟨(some 33),57,(.build [.str ByteArray.empty,.int .i64 (0),.int .i64 (0),.int .i64 (0),.slice .full 2 0 gnil] []),[],none⟩,
 ⟨(some 34),58,.move,[.t 10],none⟩,
 ⟨none,59,(.store 5),[.t 4,.t 33],none⟩,
 ⟨(some 5),60,.move,[.c (.int .i64 (0))],none⟩,
 ⟨(some 6),61,.move,[.t 34],none⟩])
 (.ret)) (.skip)))
 (.seq (.region [⟨(some 35),62,(.load true 5),[.t 8],none⟩,
 ⟨(some 36),63,.move,[.t 9],none⟩,
 ⟨none,64,(.store 5),[.t 4,.t 35],none⟩,
 ⟨(some 5),65,.move,[.t 36],none⟩,
 ⟨(some 6),66,.move,[.c (.int .i64 (0))],none⟩])
 (.ret)))))))))
 [.cell 4 true 5,.tmp 5,.tmp 6] 0 35
def f284.env : Env := [(317,f317.C),(318,f318.C),(319,f319.C),(35,f35.C),(320,f320.C)]
def f284.tree (a : ByteArray × Int) : Prop := ∃ c1 : T_model_reader,(a.1.size = c1.1.size)∧(∀ i,i < c1.1.size→DEqs ((gstr a.1) i) ((gstr c1.1) i))∧(a.2 = c1.2.1)∧((0 : Int) = c1.2.2)∧(rd_pre c1)∧∃ c2 : T_model_reader,(((((rdText c1).2).1).size) = c2.1.size)∧(∀ i,i < c2.1.size→DEqs ((gstr (((rdText c1).2).1)) i) ((gstr c2.1) i))∧((((rdText c1).2).2.1) = c2.2.1)∧((((rdText c1).2).2.2) = c2.2.2)∧(rd_pre c2)∧∃ c3 : T_model_reader,(((((rdAmt c2).2).1).size) = c3.1.size)∧(∀ i,i < c3.1.size→DEqs ((gstr (((rdAmt c2).2).1)) i) ((gstr c3.1) i))∧((((rdAmt c2).2).2.1) = c3.2.1)∧((((rdAmt c2).2).2.2) = c3.2.2)∧(rd_pre c3)∧∃ c4 : T_api_Node,(((rdText c1).1) = c4.1)∧((((rdAmt c2).1).1) = c4.2.1.1)∧((((rdAmt c2).1).2.1) = c4.2.1.2.1)∧((((rdAmt c2).1).2.2) = c4.2.1.2.2)∧((((rdLbls c3).1).length) = c4.2.2.length)∧(∀ i,i < c4.2.2.length→DEqs ((gl e_api_Label ((rdLbls c3).1)) i) ((gl e_api_Label c4.2.2) i))∧(node_pre c4)∧∃ c5 : T_model_reader × Bool,((nodeB c4) = c5.2)∧(((((rdLbls c3).2).1).size) = c5.1.1.size)∧(∀ i,i < c5.1.1.size→DEqs ((gstr (((rdLbls c3).2).1)) i) ((gstr c5.1.1) i))∧((((rdLbls c3).2).2.1) = c5.1.2.1)∧((((rdLbls c3).2).2.2) = c5.1.2.2)∧True∧Br (((rdEnd c5).2.1) != (0 : Int)) ((ByteArray.empty = (((takeNode a).1).1))∧((0 : Int) = ((((takeNode a).1).2.1).1))∧((0 : Int) = ((((takeNode a).1).2.1).2.1))∧((0 : Int) = ((((takeNode a).1).2.1).2.2))∧(0 = ((((takeNode a).1).2.2).length))∧(∀ i,i < ((((takeNode a).1).2.2).length)→DEqs (gnil i) ((gl e_api_Label (((takeNode a).1).2.2)) i))∧((0 : Int) = ((takeNode a).2.1))∧(((rdEnd c5).2.1) = ((takeNode a).2.2))∧True) ((((rdText c1).1) = (((takeNode a).1).1))∧((((rdAmt c2).1).1) = ((((takeNode a).1).2.1).1))∧((((rdAmt c2).1).2.1) = ((((takeNode a).1).2.1).2.1))∧((((rdAmt c2).1).2.2) = ((((takeNode a).1).2.1).2.2))∧((((rdLbls c3).1).length) = ((((takeNode a).1).2.2).length))∧(∀ i,i < ((((takeNode a).1).2.2).length)→DEqs ((gl e_api_Label ((rdLbls c3).1)) i) ((gl e_api_Label (((takeNode a).1).2.2)) i))∧(((rdEnd c5).1) = ((takeNode a).2.1))∧((0 : Int) = ((takeNode a).2.2))∧True)
def f284.vc (a : ByteArray × Int) : Prop := (rd_pre (a.1,a.2,(0 : Int))∧(rd_pre ((rdText (a.1,a.2,(0 : Int))).2)∧(rd_pre ((rdAmt ((rdText (a.1,a.2,(0 : Int))).2)).2)∧(node_pre ((rdText (a.1,a.2,(0 : Int))).1,((rdAmt ((rdText (a.1,a.2,(0 : Int))).2)).1),(rdLbls ((rdAmt ((rdText (a.1,a.2,(0 : Int))).2)).2)).1)∧((¬ ((rdEnd (((rdLbls ((rdAmt ((rdText (a.1,a.2,(0 : Int))).2)).2)).2),(nodeB ((rdText (a.1,a.2,(0 : Int))).1,((rdAmt ((rdText (a.1,a.2,(0 : Int))).2)).1),(rdLbls ((rdAmt ((rdText (a.1,a.2,(0 : Int))).2)).2)).1)))).2.1) = (0 : Int)→(((ByteArray.empty,((0 : Int),(0 : Int),(0 : Int)),[]),(0 : Int),(rdEnd (((rdLbls ((rdAmt ((rdText (a.1,a.2,(0 : Int))).2)).2)).2),(nodeB ((rdText (a.1,a.2,(0 : Int))).1,((rdAmt ((rdText (a.1,a.2,(0 : Int))).2)).1),(rdLbls ((rdAmt ((rdText (a.1,a.2,(0 : Int))).2)).2)).1)))).2.1) = takeNode a))∧(¬ (¬ ((rdEnd (((rdLbls ((rdAmt ((rdText (a.1,a.2,(0 : Int))).2)).2)).2),(nodeB ((rdText (a.1,a.2,(0 : Int))).1,((rdAmt ((rdText (a.1,a.2,(0 : Int))).2)).1),(rdLbls ((rdAmt ((rdText (a.1,a.2,(0 : Int))).2)).2)).1)))).2.1) = (0 : Int))→((((rdText (a.1,a.2,(0 : Int))).1,((rdAmt ((rdText (a.1,a.2,(0 : Int))).2)).1),(rdLbls ((rdAmt ((rdText (a.1,a.2,(0 : Int))).2)).2)).1),(rdEnd (((rdLbls ((rdAmt ((rdText (a.1,a.2,(0 : Int))).2)).2)).2),(nodeB ((rdText (a.1,a.2,(0 : Int))).1,((rdAmt ((rdText (a.1,a.2,(0 : Int))).2)).1),(rdLbls ((rdAmt ((rdText (a.1,a.2,(0 : Int))).2)).2)).1)))).1,(0 : Int)) = takeNode a)))))))
set_option maxRecDepth 100000 in
set_option maxHeartbeats 2000000 in
theorem f284.of (a : ByteArray × Int) (h : f284.vc a) : f284.tree a := ⟨(a.1,a.2,(0 : Int)),slK RdB.self (⟨rfl,⟨rfl,⟨h.1,⟨((rdText (a.1,a.2,(0 : Int))).2),slK RdB.self (⟨rfl,⟨rfl,⟨h.2.1,⟨((rdAmt ((rdText (a.1,a.2,(0 : Int))).2)).2),slK RdB.self (⟨rfl,⟨rfl,⟨h.2.2.1,⟨((rdText (a.1,a.2,(0 : Int))).1,((rdAmt ((rdText (a.1,a.2,(0 : Int))).2)).1),(rdLbls ((rdAmt ((rdText (a.1,a.2,(0 : Int))).2)).2)).1),⟨rfl,⟨rfl,⟨rfl,⟨rfl,slK (Rds.self (enc := e_api_Label)) (⟨h.2.2.2.1,⟨(((rdLbls ((rdAmt ((rdText (a.1,a.2,(0 : Int))).2)).2)).2),(nodeB ((rdText (a.1,a.2,(0 : Int))).1,((rdAmt ((rdText (a.1,a.2,(0 : Int))).2)).1),(rdLbls ((rdAmt ((rdText (a.1,a.2,(0 : Int))).2)).2)).1))),⟨rfl,slK RdB.self (⟨rfl,⟨rfl,⟨trivial,br h.2.2.2.2 Cnd.ne (fun h6 k10 => ⟨(congrArg (fun x : T_api_Node × Int × Int => x.1.1) k10 :),⟨(congrArg (fun x : T_api_Node × Int × Int => x.1.2.1.1) k10 :),⟨(congrArg (fun x : T_api_Node × Int × Int => x.1.2.1.2.1) k10 :),⟨(congrArg (fun x : T_api_Node × Int × Int => x.1.2.1.2.2) k10 :),slK (Rds.to (Rds.nil (enc := e_api_Label)) (congrArg (fun x : T_api_Node × Int × Int => x.1.2.2) k10 :)) (⟨(congrArg (fun x : T_api_Node × Int × Int => x.2.1) k10 :),⟨(congrArg (fun x : T_api_Node × Int × Int => x.2.2) k10 :),trivial⟩⟩)⟩⟩⟩⟩) (fun h7 k11 => ⟨(congrArg (fun x : T_api_Node × Int × Int => x.1.1) k11 :),⟨(congrArg (fun x : T_api_Node × Int × Int => x.1.2.1.1) k11 :),⟨(congrArg (fun x : T_api_Node × Int × Int => x.1.2.1.2.1) k11 :),⟨(congrArg (fun x : T_api_Node × Int × Int => x.1.2.1.2.2) k11 :),slK (Rds.to (Rds.self (enc := e_api_Label)) (congrArg (fun x : T_api_Node × Int × Int => x.1.2.2) k11 :)) (⟨(congrArg (fun x : T_api_Node × Int × Int => x.2.1) k11 :),⟨(congrArg (fun x : T_api_Node × Int × Int => x.2.2) k11 :),trivial⟩⟩)⟩⟩⟩⟩)⟩⟩⟩)⟩⟩⟩)⟩⟩⟩⟩⟩⟩⟩⟩)⟩⟩⟩⟩)⟩⟩⟩⟩)⟩
theorem f284.eq (a : ByteArray × Int) : (f284.af a).gives f284.env (f284.args a) (f284.blks a) (f284.res a) (f284.blks' a) = f284.tree a := by kernel_rfl
end Go.Abs

-- interregnum/model.TakeQueue
namespace Go.Abs
open Go
def f285.args (a : ByteArray × Int) : List D := [.slice .ro 1 a.1.size (gstr a.1),.int .i64 a.2]
def f285.blks (a : ByteArray × Int) : List (List D) := []
def f285.res (a : ByteArray × Int) : List D := [.agg [.str (((takeQueue a).1).1),.int .i64 ((((takeQueue a).1).2).1),.int .i64 ((((takeQueue a).1).2).2.1),.int .i64 ((((takeQueue a).1).2).2.2)],.int .i64 ((takeQueue a).2.1),.int .i64 ((takeQueue a).2.2)]
def f285.blks' (a : ByteArray × Int) : List (List D) := []
def f285.C : Contract := FnC f285.args f285.blks (fun a => takes_pre a) f285.res f285.blks'
end Go.Abs

/- interregnum/model.TakeQueue -/
namespace Go.Abs
open Go
set_option linter.unusedVariables false
def f285.kills (a : ByteArray × Int) : List Hint := []
def f285.cuts (a : ByteArray × Int) : List (Nat × Σ β : Type,β→Tm) := []
def f285.af (a : ByteArray × Int) : AF := AF.mk (.seq (.region [⟨(some 4),0,(.alloc [.str ByteArray.empty,.int .i64 (0),.int .i64 (0),.int .i64 (0)]),[],none⟩,
 ⟨(some 5),5,.move,[.c (.int .i64 (0))],none⟩,
 ⟨(some 6),6,.move,[.c (.int .i64 (0))],none⟩])
 (.seq (.region [⟨(some 11),7,.move,[.t 0],none⟩,
 ⟨(some 12),8,.move,[.t 1],none⟩,
 ⟨(some 13),9,(.build [.slice .full 1 0 gnil,.int .i64 (0),.int .i64 (0)] [(0,1),(1,1)]),[.t 11,.t 12],none⟩,
 ⟨(some 14),10,.box,[.t 13],none⟩,
 ⟨(some 7),11,.move,[.t 14],none⟩])
 (.seq (.region [⟨(some 15),12,.move,[.t 7],none⟩,
 ⟨(some 16),13,(.call true 317),[.t 15],none⟩,
 ⟨(some 17),17,(.build [.str ByteArray.empty,.int .i64 (0),.int .i64 (0),.int .i64 (0)] [(0,1)]),[.t 16],none⟩,
 ⟨(some 8),18,(.alloc [.str ByteArray.empty,.int .i64 (0),.int .i64 (0),.int .i64 (0)]),[],none⟩,
 ⟨none,23,(.store 4),[.t 8,.t 17],none⟩])
 (.seq (.region [⟨(some 18),24,.move,[.t 7],none⟩,
 ⟨(some 19),25,(.call true 318),[.t 18],none⟩,
 ⟨(some 20),29,(.fieldAddr 1),[.t 8],none⟩,
 ⟨none,30,(.store 3),[.t 20,.t 19],none⟩])
 (.seq (.region [⟨(some 22),31,.move,[.t 7],none⟩,
 ⟨(some 23),32,(.load true 4),[.t 8],none⟩,
 ⟨(some 24),33,(.call false 25),[.t 23],none⟩,
 ⟨(some 25),37,(.call true 320),[.t 22,.t 24],none⟩,
 ⟨(some 21),41,.move,[.t 25],none⟩,
 ⟨(some 26),42,(.extract 0),[.t 21],none⟩,
 ⟨(some 27),43,(.extract 1),[.t 21],none⟩,
 ⟨(some 9),44,.move,[.t 26],none⟩,
 ⟨(some 10),45,.move,[.t 27],none⟩])
 (.seq (.seq (.region [⟨(some 28),46,.move,[.t 10],none⟩,
 ⟨(some 29),47,(.bin .neq),[.t 28,.c (.int .i64 (0))],none⟩])
 (.cond (.t 29) (.seq (.region [⟨(some 30),48,(.build [.str ByteArray.empty,.int .i64 (0),.int .i64 (0),.int .i64 (0)] []),[],none⟩,
 ⟨(some 31),49,.move,[.t 10],none⟩,
 ⟨none,50,(.store 4),[.t 4,.t 30],none⟩,
 ⟨(some 5),51,.move,[.c (.int .i64 (0))],none⟩,
 ⟨(some 6),52,.move,[.t 31],none⟩])
 (.ret)) (.skip)))
 (.seq (.region [⟨(some 32),53,(.load true 4),[.t 8],none⟩,
 ⟨(some 33),54,.move,[.t 9],none⟩,
 ⟨none,55,(.store 4),[.t 4,.t 32],none⟩,
 ⟨(some 5),56,.move,[.t 33],none⟩,
 ⟨(some 6),57,.move,[.c (.int .i64 (0))],none⟩])
 (.ret))))))))
 [.cell 4 true 4,.tmp 5,.tmp 6] 0 32
def f285.env : Env := [(317,f317.C),(318,f318.C),(25,f25.C),(320,f320.C)]
def f285.tree (a : ByteArray × Int) : Prop := ∃ c1 : T_model_reader,(a.1.size = c1.1.size)∧(∀ i,i < c1.1.size→DEqs ((gstr a.1) i) ((gstr c1.1) i))∧(a.2 = c1.2.1)∧((0 : Int) = c1.2.2)∧(rd_pre c1)∧∃ c2 : T_model_reader,(((((rdText c1).2).1).size) = c2.1.size)∧(∀ i,i < c2.1.size→DEqs ((gstr (((rdText c1).2).1)) i) ((gstr c2.1) i))∧((((rdText c1).2).2.1) = c2.2.1)∧((((rdText c1).2).2.2) = c2.2.2)∧(rd_pre c2)∧∃ c3 : T_api_Queue,(((rdText c1).1) = c3.1)∧((((rdAmt c2).1).1) = c3.2.1)∧((((rdAmt c2).1).2.1) = c3.2.2.1)∧((((rdAmt c2).1).2.2) = c3.2.2.2)∧(queue_pre c3)∧∃ c4 : T_model_reader × Bool,((queueB c3) = c4.2)∧(((((rdAmt c2).2).1).size) = c4.1.1.size)∧(∀ i,i < c4.1.1.size→DEqs ((gstr (((rdAmt c2).2).1)) i) ((gstr c4.1.1) i))∧((((rdAmt c2).2).2.1) = c4.1.2.1)∧((((rdAmt c2).2).2.2) = c4.1.2.2)∧True∧Br (((rdEnd c4).2.1) != (0 : Int)) ((ByteArray.empty = (((takeQueue a).1).1))∧((0 : Int) = ((((takeQueue a).1).2).1))∧((0 : Int) = ((((takeQueue a).1).2).2.1))∧((0 : Int) = ((((takeQueue a).1).2).2.2))∧((0 : Int) = ((takeQueue a).2.1))∧(((rdEnd c4).2.1) = ((takeQueue a).2.2))∧True) ((((rdText c1).1) = (((takeQueue a).1).1))∧((((rdAmt c2).1).1) = ((((takeQueue a).1).2).1))∧((((rdAmt c2).1).2.1) = ((((takeQueue a).1).2).2.1))∧((((rdAmt c2).1).2.2) = ((((takeQueue a).1).2).2.2))∧(((rdEnd c4).1) = ((takeQueue a).2.1))∧((0 : Int) = ((takeQueue a).2.2))∧True)
def f285.vc (a : ByteArray × Int) : Prop := (rd_pre (a.1,a.2,(0 : Int))∧(rd_pre ((rdText (a.1,a.2,(0 : Int))).2)∧(queue_pre ((rdText (a.1,a.2,(0 : Int))).1,((rdAmt ((rdText (a.1,a.2,(0 : Int))).2)).1))∧((¬ ((rdEnd (((rdAmt ((rdText (a.1,a.2,(0 : Int))).2)).2),(queueB ((rdText (a.1,a.2,(0 : Int))).1,((rdAmt ((rdText (a.1,a.2,(0 : Int))).2)).1))))).2.1) = (0 : Int)→(((ByteArray.empty,((0 : Int),(0 : Int),(0 : Int))),(0 : Int),(rdEnd (((rdAmt ((rdText (a.1,a.2,(0 : Int))).2)).2),(queueB ((rdText (a.1,a.2,(0 : Int))).1,((rdAmt ((rdText (a.1,a.2,(0 : Int))).2)).1))))).2.1) = takeQueue a))∧(¬ (¬ ((rdEnd (((rdAmt ((rdText (a.1,a.2,(0 : Int))).2)).2),(queueB ((rdText (a.1,a.2,(0 : Int))).1,((rdAmt ((rdText (a.1,a.2,(0 : Int))).2)).1))))).2.1) = (0 : Int))→((((rdText (a.1,a.2,(0 : Int))).1,((rdAmt ((rdText (a.1,a.2,(0 : Int))).2)).1)),(rdEnd (((rdAmt ((rdText (a.1,a.2,(0 : Int))).2)).2),(queueB ((rdText (a.1,a.2,(0 : Int))).1,((rdAmt ((rdText (a.1,a.2,(0 : Int))).2)).1))))).1,(0 : Int)) = takeQueue a))))))
set_option maxRecDepth 100000 in
set_option maxHeartbeats 2000000 in
theorem f285.of (a : ByteArray × Int) (h : f285.vc a) : f285.tree a := ⟨(a.1,a.2,(0 : Int)),slK RdB.self (⟨rfl,⟨rfl,⟨h.1,⟨((rdText (a.1,a.2,(0 : Int))).2),slK RdB.self (⟨rfl,⟨rfl,⟨h.2.1,⟨((rdText (a.1,a.2,(0 : Int))).1,((rdAmt ((rdText (a.1,a.2,(0 : Int))).2)).1)),⟨rfl,⟨rfl,⟨rfl,⟨rfl,⟨h.2.2.1,⟨(((rdAmt ((rdText (a.1,a.2,(0 : Int))).2)).2),(queueB ((rdText (a.1,a.2,(0 : Int))).1,((rdAmt ((rdText (a.1,a.2,(0 : Int))).2)).1)))),⟨rfl,slK RdB.self (⟨rfl,⟨rfl,⟨trivial,br h.2.2.2 Cnd.ne (fun h5 k9 => ⟨(congrArg (fun x : T_api_Queue × Int × Int => x.1.1) k9 :),⟨(congrArg (fun x : T_api_Queue × Int × Int => x.1.2.1) k9 :),⟨(congrArg (fun x : T_api_Queue × Int × Int => x.1.2.2.1) k9 :),⟨(congrArg (fun x : T_api_Queue × Int × Int => x.1.2.2.2) k9 :),⟨(congrArg (fun x : T_api_Queue × Int × Int => x.2.1) k9 :),⟨(congrArg (fun x : T_api_Queue × Int × Int => x.2.2) k9 :),trivial⟩⟩⟩⟩⟩⟩) (fun h6 k10 => ⟨(congrArg (fun x : T_api_Queue × Int × Int => x.1.1) k10 :),⟨(congrArg (fun x : T_api_Queue × Int × Int => x.1.2.1) k10 :),⟨(congrArg (fun x : T_api_Queue × Int × Int => x.1.2.2.1) k10 :),⟨(congrArg (fun x : T_api_Queue × Int × Int => x.1.2.2.2) k10 :),⟨(congrArg (fun x : T_api_Queue × Int × Int => x.2.1) k10 :),⟨(congrArg (fun x : T_api_Queue × Int × Int => x.2.2) k10 :),trivial⟩⟩⟩⟩⟩⟩)⟩⟩⟩)⟩⟩⟩⟩⟩⟩⟩⟩⟩⟩⟩)⟩⟩⟩⟩)⟩
theorem f285.eq (a : ByteArray × Int) : (f285.af a).gives f285.env (f285.args a) (f285.blks a) (f285.res a) (f285.blks' a) = f285.tree a := by kernel_rfl
end Go.Abs

-- interregnum/model.TakeTask
namespace Go.Abs
open Go
def f286.args (a : ByteArray × Int) : List D := [.slice .ro 1 a.1.size (gstr a.1),.int .i64 a.2]
def f286.blks (a : ByteArray × Int) : List (List D) := []
def f286.res (a : ByteArray × Int) : List D := [.agg [.str (((takeTask a).1).1),.str (((takeTask a).1).2.1),.int .i64 (((takeTask a).1).2.2.1),.int .i64 ((((takeTask a).1).2.2.2.1).1),.int .i64 ((((takeTask a).1).2.2.2.1).2.1),.int .i64 ((((takeTask a).1).2.2.2.1).2.2),.slice .ro 2 ((((takeTask a).1).2.2.2.2.1).length) (gl e_api_Label (((takeTask a).1).2.2.2.2.1)),.str (((takeTask a).1).2.2.2.2.2.1),.str (((takeTask a).1).2.2.2.2.2.2.1),.int .i64 (((takeTask a).1).2.2.2.2.2.2.2)],.int .i64 ((takeTask a).2.1),.int .i64 ((takeTask a).2.2)]
def f286.blks' (a : ByteArray × Int) : List (List D) := []
def f286.C : Contract := FnC f286.args f286.blks (fun a => takes_pre a) f286.res f286.blks'
end Go.Abs

/- interregnum/model.TakeTask -/
namespace Go.Abs
open Go
set_option linter.unusedVariables false
def f286.kills (a : ByteArray × Int) : List Hint := []
def f286.cuts (a : ByteArray × Int) : List (Nat × Σ β : Type,β→Tm) := []
def f286.af (a : ByteArray × Int) : AF := AF.mk (.seq (.region [⟨(some 4),0,(.alloc [.str ByteArray.empty,.str ByteArray.empty,.int .i64 (0),.int .i64 (0),.int .i64 (0),.int .i64 (0),.slice (.own 0) 2 0 gnil,.str ByteArray.empty,.str ByteArray.empty,.int .i64 (0)]),[],none⟩,
 ⟨(some 5),11,.move,[.c (.int .i64 (0))],none⟩,
 ⟨(some 6),12,.move,[.c (.int .i64 (0))],none⟩])
 (.seq (.region [⟨(some 11),13,.move,[.t 0],none⟩,
 ⟨(some 12),14,.move,[.t 1],none⟩,
 ⟨(some 13),15,(.build [.slice .full 1 0 gnil,.int .i64 (0),.int .i64 (0)] [(0,1),(1,1)]),[.t 11,.t 12],none⟩,
 ⟨(some 14),16,.box,[.t 13],none⟩,
 ⟨(some 7),17,.move,[.t 14],none⟩])
 (.seq (.region [⟨(some 15),18,.move,[.t 7],none⟩,
 ⟨(some 16),19,(.call true 317),[.t 15],none⟩,
 ⟨(some 17),23,(.build [.str ByteArray.empty,.str ByteArray.empty,.int .i64 (0),.int .i64 (0),.int .i64 (0),.int .i64 (0),.slice .full 2 0 gnil,.str ByteArray.empty,.str ByteArray.empty,.int .i64 (0)] [(0,1)]),[.t 16],none⟩,
 ⟨(some 8),24,(.alloc [.str ByteArray.empty,.str ByteArray.empty,.int .i64 (0),.int .i64 (0),.int .i64 (0),.int .i64 (0),.slice (.own 0) 2 0 gnil,.str ByteArray.empty,.str ByteArray.empty,.int .i64 (0)]),[],none⟩,
 ⟨none,35,(.store 10),[.t 8,.t 17],none⟩])
 (.seq (.region [⟨(some 18),36,.move,[.t 7],none⟩,
 ⟨(some 19),37,(.call true 317),[.t 18],none⟩,
 ⟨(some 20),41,(.fieldAddr 1),[.t 8],none⟩,
 ⟨none,42,(.store 1),[.t 20,.t 19],none⟩])
 (.seq (.region [⟨(some 21),43,.move,[.t 7],none⟩,
 ⟨(some 22),44,(.call true 321),[.t 21,.c (.int .u64 (1048576)),.c (.int .i64 (3))],none⟩,
 ⟨(some 23),48,(.fieldAddr 2),[.t 8],none⟩,
 ⟨none,49,(.store 1),[.t 23,.t 22],none⟩])
 (.seq (.region [⟨(some 24),50,.move,[.t 7],none⟩,
 ⟨(some 25),51,(.call true 318),[.t 24],none⟩,
 ⟨(some 26),55,(.fieldAddr 3),[.t 8],none⟩,
 ⟨none,56,(.store 3),[.t 26,.t 25],none⟩])
 (.seq (.region [⟨(some 27),57,.move,[.t 7],none⟩,
 ⟨(some 28),58,(.call true 319),[.t 27],none⟩,
 ⟨(some 29),62,(.fieldAddr 6),[.t 8],none⟩,
 ⟨none,63,(.store 1),[.t 29,.t 28],none⟩])
 (.seq (.region [⟨(some 30),64,.move,[.t 7],none⟩,
 ⟨(some 31),65,(.call true 317),[.t 30],none⟩,
 ⟨(some 32),69,(.fieldAddr 7),[.t 8],none⟩,
 ⟨none,70,(.store 1),[.t 32,.t 31],none⟩])
 (.seq (.region [⟨(some 33),71,.move,[.t 7],none⟩,
 ⟨(some 34),72,(.call true 317),[.t 33],none⟩,
 ⟨(some 35),76,(.fieldAddr 8),[.t 8],none⟩,
 ⟨none,77,(.store 1),[.t 35,.t 34],none⟩])
 (.seq (.region [⟨(some 36),78,.move,[.t 7],none⟩,
 ⟨(some 37),79,(.call true 321),[.t 36,.c (.int .u64 (1048576)),.c (.int .i64 (3))],none⟩,
 ⟨(some 38),83,(.fieldAddr 9),[.t 8],none⟩,
 ⟨none,84,(.store 1),[.t 38,.t 37],none⟩])
 (.seq (.region [⟨(some 40),85,.move,[.t 7],none⟩,
 ⟨(some 41),86,(.load true 10),[.t 8],none⟩,
 ⟨(some 42),87,(.call false 24),[.t 41],none⟩,
 ⟨(some 43),91,(.call true 320),[.t 40,.t 42],none⟩,
 ⟨(some 39),95,.move,[.t 43],none⟩,
 ⟨(some 44),96,(.extract 0),[.t 39],none⟩,
 ⟨(some 45),97,(.extract 1),[.t 39],none⟩,
 ⟨(some 9),98,.move,[.t 44],none⟩,
 ⟨(some 10),99,.move,[.t 45],none⟩])
 (.seq (.seq (.region [⟨(some 46),100,.move,[.t 10],none⟩,
 ⟨(some 47),101,(.bin .neq),[.t 46,.c (.int .i64 (0))],none⟩])
 (.cond (.t 47) (.seq (.region [⟨(some 48),102,(.build [.str ByteArray.empty,.str ByteArray.empty,.int .i64 (0),.int .i64 (0),.int .i64 (0),.int .i64 (0),.slice .full 2 0 gnil,.str ByteArray.empty,.str ByteArray.empty,.int .i64 (0)] []),[],none⟩,
 ⟨(some 49),103,.move,[.t 10],none⟩,
 ⟨none,104,(.store 10),[.t 4,.t 48],none⟩,
 ⟨(some 5),105,.move,[.c (.int .i64 (0))],none⟩,
 ⟨(some 6),106,.move,[.t 49],none⟩])
 (.ret)) (.skip)))
 (.seq (.region [⟨(some 50),107,(.load true 10),[.t 8],none⟩,
 ⟨(some 51),108,.move,[.t 9],none⟩,
 ⟨none,109,(.store 10),[.t 4,.t 50],none⟩,
 ⟨(some 5),110,.move,[.t 51],none⟩,
 ⟨(some 6),111,.move,[.c (.int .i64 (0))],none⟩])
 (.ret))))))))))))))
 [.cell 4 true 10,.tmp 5,.tmp 6] 0 50
def f286.env : Env := [(317,f317.C),(321,f321.C),(318,f318.C),(319,f319.C),(24,f24.C),(320,f320.C)]
def f286.tree (a : ByteArray × Int) : Prop := ∃ c1 : T_model_reader,(a.1.size = c1.1.size)∧(∀ i,i < c1.1.size→DEqs ((gstr a.1) i) ((gstr c1.1) i))∧(a.2 = c1.2.1)∧((0 : Int) = c1.2.2)∧(rd_pre c1)∧∃ c2 : T_model_reader,(((((rdText c1).2).1).size) = c2.1.size)∧(∀ i,i < c2.1.size→DEqs ((gstr (((rdText c1).2).1)) i) ((gstr c2.1) i))∧((((rdText c1).2).2.1) = c2.2.1)∧((((rdText c1).2).2.2) = c2.2.2)∧(rd_pre c2)∧∃ c3 : T_model_reader × Int × Int,((1048576 : Int) = c3.2.1)∧((3 : Int) = c3.2.2)∧(((((rdText c2).2).1).size) = c3.1.1.size)∧(∀ i,i < c3.1.1.size→DEqs ((gstr (((rdText c2).2).1)) i) ((gstr c3.1.1) i))∧((((rdText c2).2).2.1) = c3.1.2.1)∧((((rdText c2).2).2.2) = c3.1.2.2)∧(rdNum_pre c3)∧∃ c4 : T_model_reader,(((((rdNum c3).2).1).size) = c4.1.size)∧(∀ i,i < c4.1.size→DEqs ((gstr (((rdNum c3).2).1)) i) ((gstr c4.1) i))∧((((rdNum c3).2).2.1) = c4.2.1)∧((((rdNum c3).2).2.2) = c4.2.2)∧(rd_pre c4)∧∃ c5 : T_model_reader,(((((rdAmt c4).2).1).size) = c5.1.size)∧(∀ i,i < c5.1.size→DEqs ((gstr (((rdAmt c4).2).1)) i) ((gstr c5.1) i))∧((((rdAmt c4).2).2.1) = c5.2.1)∧((((rdAmt c4).2).2.2) = c5.2.2)∧(rd_pre c5)∧∃ c6 : T_model_reader,(((((rdLbls c5).2).1).size) = c6.1.size)∧(∀ i,i < c6.1.size→DEqs ((gstr (((rdLbls c5).2).1)) i) ((gstr c6.1) i))∧((((rdLbls c5).2).2.1) = c6.2.1)∧((((rdLbls c5).2).2.2) = c6.2.2)∧(rd_pre c6)∧∃ c7 : T_model_reader,(((((rdText c6).2).1).size) = c7.1.size)∧(∀ i,i < c7.1.size→DEqs ((gstr (((rdText c6).2).1)) i) ((gstr c7.1) i))∧((((rdText c6).2).2.1) = c7.2.1)∧((((rdText c6).2).2.2) = c7.2.2)∧(rd_pre c7)∧∃ c8 : T_model_reader × Int × Int,((1048576 : Int) = c8.2.1)∧((3 : Int) = c8.2.2)∧(((((rdText c7).2).1).size) = c8.1.1.size)∧(∀ i,i < c8.1.1.size→DEqs ((gstr (((rdText c7).2).1)) i) ((gstr c8.1.1) i))∧((((rdText c7).2).2.1) = c8.1.2.1)∧((((rdText c7).2).2.2) = c8.1.2.2)∧(rdNum_pre c8)∧∃ c9 : T_api_Task,(((rdText c1).1) = c9.1)∧(((rdText c2).1) = c9.2.1)∧(((rdNum c3).1) = c9.2.2.1)∧((((rdAmt c4).1).1) = c9.2.2.2.1.1)∧((((rdAmt c4).1).2.1) = c9.2.2.2.1.2.1)∧((((rdAmt c4).1).2.2) = c9.2.2.2.1.2.2)∧((((rdLbls c5).1).length) = c9.2.2.2.2.1.length)∧(∀ i,i < c9.2.2.2.2.1.length→DEqs ((gl e_api_Label ((rdLbls c5).1)) i) ((gl e_api_Label c9.2.2.2.2.1) i))∧(((rdText c6).1) = c9.2.2.2.2.2.1)∧(((rdText c7).1) = c9.2.2.2.2.2.2.1)∧(((rdNum c8).1) = c9.2.2.2.2.2.2.2)∧(task_pre c9)∧∃ c10 : T_model_reader × Bool,((taskB c9) = c10.2)∧(((((rdNum c8).2).1).size) = c10.1.1.size)∧(∀ i,i < c10.1.1.size→DEqs ((gstr (((rdNum c8).2).1)) i) ((gstr c10.1.1) i))∧((((rdNum c8).2).2.1) = c10.1.2.1)∧((((rdNum c8).2).2.2) = c10.1.2.2)∧True∧Br (((rdEnd c10).2.1) != (0 : Int)) ((ByteArray.empty = (((takeTask a).1).1))∧(ByteArray.empty = (((takeTask a).1).2.1))∧((0 : Int) = (((takeTask a).1).2.2.1))∧((0 : Int) = ((((takeTask a).1).2.2.2.1).1))∧((0 : Int) = ((((takeTask a).1).2.2.2.1).2.1))∧((0 : Int) = ((((takeTask a).1).2.2.2.1).2.2))∧(0 = ((((takeTask a).1).2.2.2.2.1).length))∧(∀ i,i < ((((takeTask a).1).2.2.2.2.1).length)→DEqs (gnil i) ((gl e_api_Label (((takeTask a).1).2.2.2.2.1)) i))∧(ByteArray.empty = (((takeTask a).1).2.2.2.2.2.1))∧(ByteArray.empty = (((takeTask a).1).2.2.2.2.2.2.1))∧((0 : Int) = (((takeTask a).1).2.2.2.2.2.2.2))∧((0 : Int) = ((takeTask a).2.1))∧(((rdEnd c10).2.1) = ((takeTask a).2.2))∧True) ((((rdText c1).1) = (((takeTask a).1).1))∧(((rdText c2).1) = (((takeTask a).1).2.1))∧(((rdNum c3).1) = (((takeTask a).1).2.2.1))∧((((rdAmt c4).1).1) = ((((takeTask a).1).2.2.2.1).1))∧((((rdAmt c4).1).2.1) = ((((takeTask a).1).2.2.2.1).2.1))∧((((rdAmt c4).1).2.2) = ((((takeTask a).1).2.2.2.1).2.2))∧((((rdLbls c5).1).length) = ((((takeTask a).1).2.2.2.2.1).length))∧(∀ i,i < ((((takeTask a).1).2.2.2.2.1).length)→DEqs ((gl e_api_Label ((rdLbls c5).1)) i) ((gl e_api_Label (((takeTask a).1).2.2.2.2.1)) i))∧(((rdText c6).1) = (((takeTask a).1).2.2.2.2.2.1))∧(((rdText c7).1) = (((takeTask a).1).2.2.2.2.2.2.1))∧(((rdNum c8).1) = (((takeTask a).1).2.2.2.2.2.2.2))∧(((rdEnd c10).1) = ((takeTask a).2.1))∧((0 : Int) = ((takeTask a).2.2))∧True)
def f286.vc (a : ByteArray × Int) : Prop := (rd_pre (a.1,a.2,(0 : Int))∧(rd_pre ((rdText (a.1,a.2,(0 : Int))).2)∧(rdNum_pre (((rdText ((rdText (a.1,a.2,(0 : Int))).2)).2),(1048576 : Int),(3 : Int))∧(rd_pre ((rdNum (((rdText ((rdText (a.1,a.2,(0 : Int))).2)).2),(1048576 : Int),(3 : Int))).2)∧(rd_pre ((rdAmt ((rdNum (((rdText ((rdText (a.1,a.2,(0 : Int))).2)).2),(1048576 : Int),(3 : Int))).2)).2)∧(rd_pre ((rdLbls ((rdAmt ((rdNum (((rdText ((rdText (a.1,a.2,(0 : Int))).2)).2),(1048576 : Int),(3 : Int))).2)).2)).2)∧(rd_pre ((rdText ((rdLbls ((rdAmt ((rdNum (((rdText ((rdText (a.1,a.2,(0 : Int))).2)).2),(1048576 : Int),(3 : Int))).2)).2)).2)).2)∧(rdNum_pre (((rdText ((rdText ((rdLbls ((rdAmt ((rdNum (((rdText ((rdText (a.1,a.2,(0 : Int))).2)).2),(1048576 : Int),(3 : Int))).2)).2)).2)).2)).2),(1048576 : Int),(3 : Int))∧(task_pre ((rdText (a.1,a.2,(0 : Int))).1,(rdText ((rdText (a.1,a.2,(0 : Int))).2)).1,(rdNum (((rdText ((rdText (a.1,a.2,(0 : Int))).2)).2),(1048576 : Int),(3 : Int))).1,((rdAmt ((rdNum (((rdText ((rdText (a.1,a.2,(0 : Int))).2)).2),(1048576 : Int),(3 : Int))).2)).1),(rdLbls ((rdAmt ((rdNum (((rdText ((rdText (a.1,a.2,(0 : Int))).2)).2),(1048576 : Int),(3 : Int))).2)).2)).1,(rdText ((rdLbls ((rdAmt ((rdNum (((rdText ((rdText (a.1,a.2,(0 : Int))).2)).2),(1048576 : Int),(3 : Int))).2)).2)).2)).1,(rdText ((rdText ((rdLbls ((rdAmt ((rdNum (((rdText ((rdText (a.1,a.2,(0 : Int))).2)).2),(1048576 : Int),(3 : Int))).2)).2)).2)).2)).1,(rdNum (((rdText ((rdText ((rdLbls ((rdAmt ((rdNum (((rdText ((rdText (a.1,a.2,(0 : Int))).2)).2),(1048576 : Int),(3 : Int))).2)).2)).2)).2)).2),(1048576 : Int),(3 : Int))).1)∧((¬ ((rdEnd (((rdNum (((rdText ((rdText ((rdLbls ((rdAmt ((rdNum (((rdText ((rdText (a.1,a.2,(0 : Int))).2)).2),(1048576 : Int),(3 : Int))).2)).2)).2)).2)).2),(1048576 : Int),(3 : Int))).2),(taskB ((rdText (a.1,a.2,(0 : Int))).1,(rdText ((rdText (a.1,a.2,(0 : Int))).2)).1,(rdNum (((rdText ((rdText (a.1,a.2,(0 : Int))).2)).2),(1048576 : Int),(3 : Int))).1,((rdAmt ((rdNum (((rdText ((rdText (a.1,a.2,(0 : Int))).2)).2),(1048576 : Int),(3 : Int))).2)).1),(rdLbls ((rdAmt ((rdNum (((rdText ((rdText (a.1,a.2,(0 : Int))).2)).2),(1048576 : Int),(3 : Int))).2)).2)).1,(rdText ((rdLbls ((rdAmt ((rdNum (((rdText ((rdText (a.1,a.2,(0 : Int))).2)).2),(1048576 : Int),(3 : Int))).2)).2)).2)).1,(rdText ((rdText ((rdLbls ((rdAmt ((rdNum (((rdText ((rdText (a.1,a.2,(0 : Int))).2)).2),(1048576 : Int),(3 : Int))).2)).2)).2)).2)).1,(rdNum (((rdText ((rdText ((rdLbls ((rdAmt ((rdNum (((rdText ((rdText (a.1,a.2,(0 : Int))).2)).2),(1048576 : Int),(3 : Int))).2)).2)).2)).2)).2),(1048576 : Int),(3 : Int))).1)))).2.1) = (0 : Int)→(((ByteArray.empty,ByteArray.empty,(0 : Int),((0 : Int),(0 : Int),(0 : Int)),[],ByteArray.empty,ByteArray.empty,(0 : Int)),(0 : Int),(rdEnd (((rdNum (((rdText ((rdText ((rdLbls ((rdAmt ((rdNum (((rdText ((rdText (a.1,a.2,(0 : Int))).2)).2),(1048576 : Int),(3 : Int))).2)).2)).2)).2)).2),(1048576 : Int),(3 : Int))).2),(taskB ((rdText (a.1,a.2,(0 : Int))).1,(rdText ((rdText (a.1,a.2,(0 : Int))).2)).1,(rdNum (((rdText ((rdText (a.1,a.2,(0 : Int))).2)).2),(1048576 : Int),(3 : Int))).1,((rdAmt ((rdNum (((rdText ((rdText (a.1,a.2,(0 : Int))).2)).2),(1048576 : Int),(3 : Int))).2)).1),(rdLbls ((rdAmt ((rdNum (((rdText ((rdText (a.1,a.2,(0 : Int))).2)).2),(1048576 : Int),(3 : Int))).2)).2)).1,(rdText ((rdLbls ((rdAmt ((rdNum (((rdText ((rdText (a.1,a.2,(0 : Int))).2)).2),(1048576 : Int),(3 : Int))).2)).2)).2)).1,(rdText ((rdText ((rdLbls ((rdAmt ((rdNum (((rdText ((rdText (a.1,a.2,(0 : Int))).2)).2),(1048576 : Int),(3 : Int))).2)).2)).2)).2)).1,(rdNum (((rdText ((rdText ((rdLbls ((rdAmt ((rdNum (((rdText ((rdText (a.1,a.2,(0 : Int))).2)).2),(1048576 : Int),(3 : Int))).2)).2)).2)).2)).2),(1048576 : Int),(3 : Int))).1)))).2.1) = takeTask a))∧(¬ (¬ ((rdEnd (((rdNum (((rdText ((rdText ((rdLbls ((rdAmt ((rdNum (((rdText ((rdText (a.1,a.2,(0 : Int))).2)).2),(1048576 : Int),(3 : Int))).2)).2)).2)).2)).2),(1048576 : Int),(3 : Int))).2),(taskB ((rdText (a.1,a.2,(0 : Int))).1,(rdText ((rdText (a.1,a.2,(0 : Int))).2)).1,(rdNum (((rdText ((rdText (a.1,a.2,(0 : Int))).2)).2),(1048576 : Int),(3 : Int))).1,((rdAmt ((rdNum (((rdText ((rdText (a.1,a.2,(0 : Int))).2)).2),(1048576 : Int),(3 : Int))).2)).1),(rdLbls ((rdAmt ((rdNum (((rdText ((rdText (a.1,a.2,(0 : Int))).2)).2),(1048576 : Int),(3 : Int))).2)).2)).1,(rdText ((rdLbls ((rdAmt ((rdNum (((rdText ((rdText (a.1,a.2,(0 : Int))).2)).2),(1048576 : Int),(3 : Int))).2)).2)).2)).1,(rdText ((rdText ((rdLbls ((rdAmt ((rdNum (((rdText ((rdText (a.1,a.2,(0 : Int))).2)).2),(1048576 : Int),(3 : Int))).2)).2)).2)).2)).1,(rdNum (((rdText ((rdText ((rdLbls ((rdAmt ((rdNum (((rdText ((rdText (a.1,a.2,(0 : Int))).2)).2),(1048576 : Int),(3 : Int))).2)).2)).2)).2)).2),(1048576 : Int),(3 : Int))).1)))).2.1) = (0 : Int))→((((rdText (a.1,a.2,(0 : Int))).1,(rdText ((rdText (a.1,a.2,(0 : Int))).2)).1,(rdNum (((rdText ((rdText (a.1,a.2,(0 : Int))).2)).2),(1048576 : Int),(3 : Int))).1,((rdAmt ((rdNum (((rdText ((rdText (a.1,a.2,(0 : Int))).2)).2),(1048576 : Int),(3 : Int))).2)).1),(rdLbls ((rdAmt ((rdNum (((rdText ((rdText (a.1,a.2,(0 : Int))).2)).2),(1048576 : Int),(3 : Int))).2)).2)).1,(rdText ((rdLbls ((rdAmt ((rdNum (((rdText ((rdText (a.1,a.2,(0 : Int))).2)).2),(1048576 : Int),(3 : Int))).2)).2)).2)).1,(rdText ((rdText ((rdLbls ((rdAmt ((rdNum (((rdText ((rdText (a.1,a.2,(0 : Int))).2)).2),(1048576 : Int),(3 : Int))).2)).2)).2)).2)).1,(rdNum (((rdText ((rdText ((rdLbls ((rdAmt ((rdNum (((rdText ((rdText (a.1,a.2,(0 : Int))).2)).2),(1048576 : Int),(3 : Int))).2)).2)).2)).2)).2),(1048576 : Int),(3 : Int))).1),(rdEnd (((rdNum (((rdText ((rdText ((rdLbls ((rdAmt ((rdNum (((rdText ((rdText (a.1,a.2,(0 : Int))).2)).2),(1048576 : Int),(3 : Int))).2)).2)).2)).2)).2),(1048576 : Int),(3 : Int))).2),(taskB ((rdText (a.1,a.2,(0 : Int))).1,(rdText ((rdText (a.1,a.2,(0 : Int))).2)).1,(rdNum (((rdText ((rdText (a.1,a.2,(0 : Int))).2)).2),(1048576 : Int),(3 : Int))).1,((rdAmt ((rdNum (((rdText ((rdText (a.1,a.2,(0 : Int))).2)).2),(1048576 : Int),(3 : Int))).2)).1),(rdLbls ((rdAmt ((rdNum (((rdText ((rdText (a.1,a.2,(0 : Int))).2)).2),(1048576 : Int),(3 : Int))).2)).2)).1,(rdText ((rdLbls ((rdAmt ((rdNum (((rdText ((rdText (a.1,a.2,(0 : Int))).2)).2),(1048576 : Int),(3 : Int))).2)).2)).2)).1,(rdText ((rdText ((rdLbls ((rdAmt ((rdNum (((rdText ((rdText (a.1,a.2,(0 : Int))).2)).2),(1048576 : Int),(3 : Int))).2)).2)).2)).2)).1,(rdNum (((rdText ((rdText ((rdLbls ((rdAmt ((rdNum (((rdText ((rdText (a.1,a.2,(0 : Int))).2)).2),(1048576 : Int),(3 : Int))).2)).2)).2)).2)).2),(1048576 : Int),(3 : Int))).1)))).1,(0 : Int)) = takeTask a))))))))))))
set_option maxRecDepth 100000 in
set_option maxHeartbeats 2000000 in
theorem f286.of (a : ByteArray × Int) (h : f286.vc a) : f286.tree a := ⟨(a.1,a.2,(0 : Int)),slK RdB.self (⟨rfl,⟨rfl,⟨h.1,⟨((rdText (a.1,a.2,(0 : Int))).2),slK RdB.self (⟨rfl,⟨rfl,⟨h.2.1,⟨(((rdText ((rdText (a.1,a.2,(0 : Int))).2)).2),(1048576 : Int),(3 : Int)),⟨rfl,⟨rfl,slK RdB.self (⟨rfl,⟨rfl,⟨h.2.2.1,⟨((rdNum (((rdText ((rdText (a.1,a.2,(0 : Int))).2)).2),(1048576 : Int),(3 : Int))).2),slK RdB.self (⟨rfl,⟨rfl,⟨h.2.2.2.1,⟨((rdAmt ((rdNum (((rdText ((rdText (a.1,a.2,(0 : Int))).2)).2),(1048576 : Int),(3 : Int))).2)).2),slK RdB.self (⟨rfl,⟨rfl,⟨h.2.2.2.2.1,⟨((rdLbls ((rdAmt ((rdNum (((rdText ((rdText (a.1,a.2,(0 : Int))).2)).2),(1048576 : Int),(3 : Int))).2)).2)).2),slK RdB.self (⟨rfl,⟨rfl,⟨h.2.2.2.2.2.1,⟨((rdText ((rdLbls ((rdAmt ((rdNum (((rdText ((rdText (a.1,a.2,(0 : Int))).2)).2),(1048576 : Int),(3 : Int))).2)).2)).2)).2),slK RdB.self (⟨rfl,⟨rfl,⟨h.2.2.2.2.2.2.1,⟨(((rdText ((rdText ((rdLbls ((rdAmt ((rdNum (((rdText ((rdText (a.1,a.2,(0 : Int))).2)).2),(1048576 : Int),(3 : Int))).2)).2)).2)).2)).2),(1048576 : Int),(3 : Int)),⟨rfl,⟨rfl,slK RdB.self (⟨rfl,⟨rfl,⟨h.2.2.2.2.2.2.2.1,⟨((rdText (a.1,a.2,(0 : Int))).1,(rdText ((rdText (a.1,a.2,(0 : Int))).2)).1,(rdNum (((rdText ((rdText (a.1,a.2,(0 : Int))).2)).2),(1048576 : Int),(3 : Int))).1,((rdAmt ((rdNum (((rdText ((rdText (a.1,a.2,(0 : Int))).2)).2),(1048576 : Int),(3 : Int))).2)).1),(rdLbls ((rdAmt ((rdNum (((rdText ((rdText (a.1,a.2,(0 : Int))).2)).2),(1048576 : Int),(3 : Int))).2)).2)).1,(rdText ((rdLbls ((rdAmt ((rdNum (((rdText ((rdText (a.1,a.2,(0 : Int))).2)).2),(1048576 : Int),(3 : Int))).2)).2)).2)).1,(rdText ((rdText ((rdLbls ((rdAmt ((rdNum (((rdText ((rdText (a.1,a.2,(0 : Int))).2)).2),(1048576 : Int),(3 : Int))).2)).2)).2)).2)).1,(rdNum (((rdText ((rdText ((rdLbls ((rdAmt ((rdNum (((rdText ((rdText (a.1,a.2,(0 : Int))).2)).2),(1048576 : Int),(3 : Int))).2)).2)).2)).2)).2),(1048576 : Int),(3 : Int))).1),⟨rfl,⟨rfl,⟨rfl,⟨rfl,⟨rfl,⟨rfl,slK (Rds.self (enc := e_api_Label)) (⟨rfl,⟨rfl,⟨rfl,⟨h.2.2.2.2.2.2.2.2.1,⟨(((rdNum (((rdText ((rdText ((rdLbls ((rdAmt ((rdNum (((rdText ((rdText (a.1,a.2,(0 : Int))).2)).2),(1048576 : Int),(3 : Int))).2)).2)).2)).2)).2),(1048576 : Int),(3 : Int))).2),(taskB ((rdText (a.1,a.2,(0 : Int))).1,(rdText ((rdText (a.1,a.2,(0 : Int))).2)).1,(rdNum (((rdText ((rdText (a.1,a.2,(0 : Int))).2)).2),(1048576 : Int),(3 : Int))).1,((rdAmt ((rdNum (((rdText ((rdText (a.1,a.2,(0 : Int))).2)).2),(1048576 : Int),(3 : Int))).2)).1),(rdLbls ((rdAmt ((rdNum (((rdText ((rdText (a.1,a.2,(0 : Int))).2)).2),(1048576 : Int),(3 : Int))).2)).2)).1,(rdText ((rdLbls ((rdAmt ((rdNum (((rdText ((rdText (a.1,a.2,(0 : Int))).2)).2),(1048576 : Int),(3 : Int))).2)).2)).2)).1,(rdText ((rdText ((rdLbls ((rdAmt ((rdNum (((rdText ((rdText (a.1,a.2,(0 : Int))).2)).2),(1048576 : Int),(3 : Int))).2)).2)).2)).2)).1,(rdNum (((rdText ((rdText ((rdLbls ((rdAmt ((rdNum (((rdText ((rdText (a.1,a.2,(0 : Int))).2)).2),(1048576 : Int),(3 : Int))).2)).2)).2)).2)).2),(1048576 : Int),(3 : Int))).1))),⟨rfl,slK RdB.self (⟨rfl,⟨rfl,⟨trivial,br h.2.2.2.2.2.2.2.2.2 Cnd.ne (fun h11 k15 => ⟨(congrArg (fun x : T_api_Task × Int × Int => x.1.1) k15 :),⟨(congrArg (fun x : T_api_Task × Int × Int => x.1.2.1) k15 :),⟨(congrArg (fun x : T_api_Task × Int × Int => x.1.2.2.1) k15 :),⟨(congrArg (fun x : T_api_Task × Int × Int => x.1.2.2.2.1.1) k15 :),⟨(congrArg (fun x : T_api_Task × Int × Int => x.1.2.2.2.1.2.1) k15 :),⟨(congrArg (fun x : T_api_Task × Int × Int => x.1.2.2.2.1.2.2) k15 :),slK (Rds.to (Rds.nil (enc := e_api_Label)) (congrArg (fun x : T_api_Task × Int × Int => x.1.2.2.2.2.1) k15 :)) (⟨(congrArg (fun x : T_api_Task × Int × Int => x.1.2.2.2.2.2.1) k15 :),⟨(congrArg (fun x : T_api_Task × Int × Int => x.1.2.2.2.2.2.2.1) k15 :),⟨(congrArg (fun x : T_api_Task × Int × Int => x.1.2.2.2.2.2.2.2) k15 :),⟨(congrArg (fun x : T_api_Task × Int × Int => x.2.1) k15 :),⟨(congrArg (fun x : T_api_Task × Int × Int => x.2.2) k15 :),trivial⟩⟩⟩⟩⟩)⟩⟩⟩⟩⟩⟩) (fun h12 k16 => ⟨(congrArg (fun x : T_api_Task × Int × Int => x.1.1) k16 :),⟨(congrArg (fun x : T_api_Task × Int × Int => x.1.2.1) k16 :),⟨(congrArg (fun x : T_api_Task × Int × Int => x.1.2.2.1) k16 :),⟨(congrArg (fun x : T_api_Task × Int × Int => x.1.2.2.2.1.1) k16 :),⟨(congrArg (fun x : T_api_Task × Int × Int => x.1.2.2.2.1.2.1) k16 :),⟨(congrArg (fun x : T_api_Task × Int × Int => x.1.2.2.2.1.2.2) k16 :),slK (Rds.to (Rds.self (enc := e_api_Label)) (congrArg (fun x : T_api_Task × Int × Int => x.1.2.2.2.2.1) k16 :)) (⟨(congrArg (fun x : T_api_Task × Int × Int => x.1.2.2.2.2.2.1) k16 :),⟨(congrArg (fun x : T_api_Task × Int × Int => x.1.2.2.2.2.2.2.1) k16 :),⟨(congrArg (fun x : T_api_Task × Int × Int => x.1.2.2.2.2.2.2.2) k16 :),⟨(congrArg (fun x : T_api_Task × Int × Int => x.2.1) k16 :),⟨(congrArg (fun x : T_api_Task × Int × Int => x.2.2) k16 :),trivial⟩⟩⟩⟩⟩)⟩⟩⟩⟩⟩⟩)⟩⟩⟩)⟩⟩⟩⟩⟩⟩)⟩⟩⟩⟩⟩⟩⟩⟩⟩⟩)⟩⟩⟩⟩⟩⟩)⟩⟩⟩⟩)⟩⟩⟩⟩)⟩⟩⟩⟩)⟩⟩⟩⟩)⟩⟩⟩⟩⟩⟩)⟩⟩⟩⟩)⟩
theorem f286.eq (a : ByteArray × Int) : (f286.af a).gives f286.env (f286.args a) (f286.blks a) (f286.res a) (f286.blks' a) = f286.tree a := by kernel_rfl
end Go.Abs

-- (*interregnum/interregnumref05.Reader).Node
namespace Go.Abs
open Go
def f288.args (a : T_interregnumref05_Reader) : List D := [.ptr 0 0]
def f288.blks (a : T_interregnumref05_Reader) : List (List D) := [[.str a.1,.int .i64 a.2.1,.int .i64 a.2.2]]
def f288.res (a : T_interregnumref05_Reader) : List D := [.agg [.str (((rfNode a).1).1),.int .i64 ((((rfNode a).1).2.1).1),.int .i64 ((((rfNode a).1).2.1).2.1),.int .i64 ((((rfNode a).1).2.1).2.2),.slice .ro 2 ((((rfNode a).1).2.2).length) (gl e_api_Label (((rfNode a).1).2.2))]]
def f288.blks' (a : T_interregnumref05_Reader) : List (List D) := [[.str (((rfNode a).2).1),.int .i64 (((rfNode a).2).2.1),.int .i64 (((rfNode a).2).2.2)]]
def f288.C : Contract := FnC f288.args f288.blks (fun a => rd_pre a) f288.res f288.blks'
end Go.Abs

/- (*interregnum/interregnumref05.Reader).Node -/
namespace Go.Abs
open Go
set_option linter.unusedVariables false
def f288.kills (a : T_interregnumref05_Reader) : List Hint := []
def f288.cuts (a : T_interregnumref05_Reader) : List (Nat × Σ β : Type,β→Tm) := []
def f288.af (a : T_interregnumref05_Reader) : AF := AF.mk (.seq (.region [⟨(some 2),1,(.alloc [.str ByteArray.empty,.int .i64 (0),.int .i64 (0),.int .i64 (0),.slice (.own 0) 2 0 gnil]),[],none⟩])
 (.seq (.region [⟨(some 4),7,.move,[.t 0],none⟩,
 ⟨(some 5),8,(.call true 323),[.t 4,.c (.int .i64 (16))],none⟩,
 ⟨(some 6),12,(.build [.str ByteArray.empty,.int .i64 (0),.int .i64 (0),.int .i64 (0),.slice .full 2 0 gnil] [(0,1)]),[.t 5],none⟩,
 ⟨(some 3),13,(.alloc [.str ByteArray.empty,.int .i64 (0),.int .i64 (0),.int .i64 (0),.slice (.own 0) 2 0 gnil]),[],none⟩,
 ⟨none,19,(.store 5),[.t 3,.t 6],none⟩])
 (.seq (.region [⟨(some 7),20,.move,[.t 0],none⟩,
 ⟨(some 8),21,(.call true 324),[.t 7],none⟩,
 ⟨(some 9),25,(.fieldAddr 1),[.t 3],none⟩,
 ⟨none,26,(.store 3),[.t 9,.t 8],none⟩])
 (.seq (.region [⟨(some 10),27,.move,[.t 0],none⟩,
 ⟨(some 11),28,(.call true 325),[.t 10],none⟩,
 ⟨(some 12),32,(.fieldAddr 4),[.t 3],none⟩,
 ⟨none,33,(.store 1),[.t 12,.t 11],none⟩])
 (.seq (.seq (.region [⟨(some 13),34,.move,[.t 0],none⟩,
 ⟨(some 14),35,(.load true 5),[.t 3],none⟩,
 ⟨(some 15),36,(.call false 36),[.t 14],none⟩,
 ⟨(some 16),40,(.call true 326),[.t 13,.t 15],none⟩,
 ⟨(some 17),44,(.un .not),[.t 16],none⟩])
 (.cond (.t 17) (.seq (.region [⟨(some 18),45,(.build [.str ByteArray.empty,.int .i64 (0),.int .i64 (0),.int .i64 (0),.slice .full 2 0 gnil] []),[],none⟩,
 ⟨none,46,(.store 5),[.t 2,.t 18],none⟩])
 (.ret)) (.skip)))
 (.seq (.region [⟨(some 19),47,(.load true 5),[.t 3],none⟩,
 ⟨none,48,(.store 5),[.t 2,.t 19],none⟩])
 (.ret)))))))
 [.cell 2 true 5] 1 19
def f288.env : Env := [(323,f323.C),(324,f324.C),(325,f325.C),(36,f36.C),(326,f326.C)]
def f288.tree (a : T_interregnumref05_Reader) : Prop := ∃ c1 : T_interregnumref05_Reader × Int,((16 : Int) = c1.2)∧(a.1 = c1.1.1)∧(a.2.1 = c1.1.2.1)∧(a.2.2 = c1.1.2.2)∧(rfText_pre c1)∧∃ c2 : T_interregnumref05_Reader,((((rfText c1).2).1) = c2.1)∧((((rfText c1).2).2.1) = c2.2.1)∧((((rfText c1).2).2.2) = c2.2.2)∧(rd_pre c2)∧∃ c3 : T_interregnumref05_Reader,((((rdAmt c2).2).1) = c3.1)∧((((rdAmt c2).2).2.1) = c3.2.1)∧((((rdAmt c2).2).2.2) = c3.2.2)∧(rd_pre c3)∧∃ c4 : T_api_Node,(((rfText c1).1) = c4.1)∧((((rdAmt c2).1).1) = c4.2.1.1)∧((((rdAmt c2).1).2.1) = c4.2.1.2.1)∧((((rdAmt c2).1).2.2) = c4.2.1.2.2)∧((((rfLbls c3).1).length) = c4.2.2.length)∧(∀ i,i < c4.2.2.length→DEqs ((gl e_api_Label ((rfLbls c3).1)) i) ((gl e_api_Label c4.2.2) i))∧(node_pre c4)∧∃ c5 : T_interregnumref05_Reader × Bool,((nodeB c4) = c5.2)∧((((rfLbls c3).2).1) = c5.1.1)∧((((rfLbls c3).2).2.1) = c5.1.2.1)∧((((rfLbls c3).2).2.2) = c5.1.2.2)∧True∧Br (!((rfDone c5).1)) ((ByteArray.empty = (((rfNode a).1).1))∧((0 : Int) = ((((rfNode a).1).2.1).1))∧((0 : Int) = ((((rfNode a).1).2.1).2.1))∧((0 : Int) = ((((rfNode a).1).2.1).2.2))∧(0 = ((((rfNode a).1).2.2).length))∧(∀ i,i < ((((rfNode a).1).2.2).length)→DEqs (gnil i) ((gl e_api_Label (((rfNode a).1).2.2)) i))∧((((rfDone c5).2).1) = (((rfNode a).2).1))∧((((rfDone c5).2).2.1) = (((rfNode a).2).2.1))∧((((rfDone c5).2).2.2) = (((rfNode a).2).2.2))∧True) ((((rfText c1).1) = (((rfNode a).1).1))∧((((rdAmt c2).1).1) = ((((rfNode a).1).2.1).1))∧((((rdAmt c2).1).2.1) = ((((rfNode a).1).2.1).2.1))∧((((rdAmt c2).1).2.2) = ((((rfNode a).1).2.1).2.2))∧((((rfLbls c3).1).length) = ((((rfNode a).1).2.2).length))∧(∀ i,i < ((((rfNode a).1).2.2).length)→DEqs ((gl e_api_Label ((rfLbls c3).1)) i) ((gl e_api_Label (((rfNode a).1).2.2)) i))∧((((rfDone c5).2).1) = (((rfNode a).2).1))∧((((rfDone c5).2).2.1) = (((rfNode a).2).2.1))∧((((rfDone c5).2).2.2) = (((rfNode a).2).2.2))∧True)
def f288.vc (a : T_interregnumref05_Reader) : Prop := (rfText_pre (a,(16 : Int))∧(rd_pre ((rfText (a,(16 : Int))).2)∧(rd_pre ((rdAmt ((rfText (a,(16 : Int))).2)).2)∧(node_pre ((rfText (a,(16 : Int))).1,((rdAmt ((rfText (a,(16 : Int))).2)).1),(rfLbls ((rdAmt ((rfText (a,(16 : Int))).2)).2)).1)∧((¬ (((rfDone (((rfLbls ((rdAmt ((rfText (a,(16 : Int))).2)).2)).2),(nodeB ((rfText (a,(16 : Int))).1,((rdAmt ((rfText (a,(16 : Int))).2)).1),(rfLbls ((rdAmt ((rfText (a,(16 : Int))).2)).2)).1)))).1) = true)→(((ByteArray.empty,((0 : Int),(0 : Int),(0 : Int)),[]),((rfDone (((rfLbls ((rdAmt ((rfText (a,(16 : Int))).2)).2)).2),(nodeB ((rfText (a,(16 : Int))).1,((rdAmt ((rfText (a,(16 : Int))).2)).1),(rfLbls ((rdAmt ((rfText (a,(16 : Int))).2)).2)).1)))).2)) = rfNode a))∧(¬ (¬ (((rfDone (((rfLbls ((rdAmt ((rfText (a,(16 : Int))).2)).2)).2),(nodeB ((rfText (a,(16 : Int))).1,((rdAmt ((rfText (a,(16 : Int))).2)).1),(rfLbls ((rdAmt ((rfText (a,(16 : Int))).2)).2)).1)))).1) = true))→((((rfText (a,(16 : Int))).1,((rdAmt ((rfText (a,(16 : Int))).2)).1),(rfLbls ((rdAmt ((rfText (a,(16 : Int))).2)).2)).1),((rfDone (((rfLbls ((rdAmt ((rfText (a,(16 : Int))).2)).2)).2),(nodeB ((rfText (a,(16 : Int))).1,((rdAmt ((rfText (a,(16 : Int))).2)).1),(rfLbls ((rdAmt ((rfText (a,(16 : Int))).2)).2)).1)))).2)) = rfNode a)))))))
set_option maxRecDepth 100000 in
set_option maxHeartbeats 2000000 in
theorem f288.of (a : T_interregnumref05_Reader) (h : f288.vc a) : f288.tree a := ⟨(a,(16 : Int)),⟨rfl,⟨rfl,⟨rfl,⟨rfl,⟨h.1,⟨((rfText (a,(16 : Int))).2),⟨rfl,⟨rfl,⟨rfl,⟨h.2.1,⟨((rdAmt ((rfText (a,(16 : Int))).2)).2),⟨rfl,⟨rfl,⟨rfl,⟨h.2.2.1,⟨((rfText (a,(16 : Int))).1,((rdAmt ((rfText (a,(16 : Int))).2)).1),(rfLbls ((rdAmt ((rfText (a,(16 : Int))).2)).2)).1),⟨rfl,⟨rfl,⟨rfl,⟨rfl,slK (Rds.self (enc := e_api_Label)) (⟨h.2.2.2.1,⟨(((rfLbls ((rdAmt ((rfText (a,(16 : Int))).2)).2)).2),(nodeB ((rfText (a,(16 : Int))).1,((rdAmt ((rfText (a,(16 : Int))).2)).1),(rfLbls ((rdAmt ((rfText (a,(16 : Int))).2)).2)).1))),⟨rfl,⟨rfl,⟨rfl,⟨rfl,⟨trivial,br h.2.2.2.2 (Cnd.not Cnd.b) (fun h6 k10 => ⟨(congrArg (fun x : T_api_Node × T_interregnumref05_Reader => x.1.1) k10 :),⟨(congrArg (fun x : T_api_Node × T_interregnumref05_Reader => x.1.2.1.1) k10 :),⟨(congrArg (fun x : T_api_Node × T_interregnumref05_Reader => x.1.2.1.2.1) k10 :),⟨(congrArg (fun x : T_api_Node × T_interregnumref05_Reader => x.1.2.1.2.2) k10 :),slK (Rds.to (Rds.nil (enc := e_api_Label)) (congrArg (fun x : T_api_Node × T_interregnumref05_Reader => x.1.2.2) k10 :)) (⟨(congrArg (fun x : T_api_Node × T_interregnumref05_Reader => x.2.1) k10 :),⟨(congrArg (fun x : T_api_Node × T_interregnumref05_Reader => x.2.2.1) k10 :),⟨(congrArg (fun x : T_api_Node × T_interregnumref05_Reader => x.2.2.2) k10 :),trivial⟩⟩⟩)⟩⟩⟩⟩) (fun h7 k11 => ⟨(congrArg (fun x : T_api_Node × T_interregnumref05_Reader => x.1.1) k11 :),⟨(congrArg (fun x : T_api_Node × T_interregnumref05_Reader => x.1.2.1.1) k11 :),⟨(congrArg (fun x : T_api_Node × T_interregnumref05_Reader => x.1.2.1.2.1) k11 :),⟨(congrArg (fun x : T_api_Node × T_interregnumref05_Reader => x.1.2.1.2.2) k11 :),slK (Rds.to (Rds.self (enc := e_api_Label)) (congrArg (fun x : T_api_Node × T_interregnumref05_Reader => x.1.2.2) k11 :)) (⟨(congrArg (fun x : T_api_Node × T_interregnumref05_Reader => x.2.1) k11 :),⟨(congrArg (fun x : T_api_Node × T_interregnumref05_Reader => x.2.2.1) k11 :),⟨(congrArg (fun x : T_api_Node × T_interregnumref05_Reader => x.2.2.2) k11 :),trivial⟩⟩⟩)⟩⟩⟩⟩)⟩⟩⟩⟩⟩⟩⟩)⟩⟩⟩⟩⟩⟩⟩⟩⟩⟩⟩⟩⟩⟩⟩⟩⟩⟩⟩⟩⟩
theorem f288.eq (a : T_interregnumref05_Reader) : (f288.af a).gives f288.env (f288.args a) (f288.blks a) (f288.res a) (f288.blks' a) = f288.tree a := by kernel_rfl
end Go.Abs

-- (*interregnum/interregnumref05.Reader).Queue
namespace Go.Abs
open Go
def f289.args (a : T_interregnumref05_Reader) : List D := [.ptr 0 0]
def f289.blks (a : T_interregnumref05_Reader) : List (List D) := [[.str a.1,.int .i64 a.2.1,.int .i64 a.2.2]]
def f289.res (a : T_interregnumref05_Reader) : List D := [.agg [.str (((rfQueue a).1).1),.int .i64 ((((rfQueue a).1).2).1),.int .i64 ((((rfQueue a).1).2).2.1),.int .i64 ((((rfQueue a).1).2).2.2)]]
def f289.blks' (a : T_interregnumref05_Reader) : List (List D) := [[.str (((rfQueue a).2).1),.int .i64 (((rfQueue a).2).2.1),.int .i64 (((rfQueue a).2).2.2)]]
def f289.C : Contract := FnC f289.args f289.blks (fun a => rd_pre a) f289.res f289.blks'
end Go.Abs

/- (*interregnum/interregnumref05.Reader).Queue -/
namespace Go.Abs
open Go
set_option linter.unusedVariables false
def f289.kills (a : T_interregnumref05_Reader) : List Hint := []
def f289.cuts (a : T_interregnumref05_Reader) : List (Nat × Σ β : Type,β→Tm) := []
def f289.af (a : T_interregnumref05_Reader) : AF := AF.mk (.seq (.region [⟨(some 2),1,(.alloc [.str ByteArray.empty,.int .i64 (0),.int .i64 (0),.int .i64 (0)]),[],none⟩])
 (.seq (.region [⟨(some 4),6,.move,[.t 0],none⟩,
 ⟨(some 5),7,(.call true 323),[.t 4,.c (.int .i64 (16))],none⟩,
 ⟨(some 6),11,(.build [.str ByteArray.empty,.int .i64 (0),.int .i64 (0),.int .i64 (0)] [(0,1)]),[.t 5],none⟩,
 ⟨(some 3),12,(.alloc [.str ByteArray.empty,.int .i64 (0),.int .i64 (0),.int .i64 (0)]),[],none⟩,
 ⟨none,17,(.store 4),[.t 3,.t 6],none⟩])
 (.seq (.region [⟨(some 7),18,.move,[.t 0],none⟩,
 ⟨(some 8),19,(.call true 324),[.t 7],none⟩,
 ⟨(some 9),23,(.fieldAddr 1),[.t 3],none⟩,
 ⟨none,24,(.store 3),[.t 9,.t 8],none⟩])
 (.seq (.seq (.region [⟨(some 10),25,.move,[.t 0],none⟩,
 ⟨(some 11),26,(.load true 4),[.t 3],none⟩,
 ⟨(some 12),27,(.call false 37),[.t 11],none⟩,
 ⟨(some 13),31,(.call true 326),[.t 10,.t 12],none⟩,
 ⟨(some 14),35,(.un .not),[.t 13],none⟩])
 (.cond (.t 14) (.seq (.region [⟨(some 15),36,(.build [.str ByteArray.empty,.int .i64 (0),.int .i64 (0),.int .i64 (0)] []),[],none⟩,
 ⟨none,37,(.store 4),[.t 2,.t 15],none⟩])
 (.ret)) (.skip)))
 (.seq (.region [⟨(some 16),38,(.load true 4),[.t 3],none⟩,
 ⟨none,39,(.store 4),[.t 2,.t 16],none⟩])
 (.ret))))))
 [.cell 2 true 4] 1 16
def f289.env : Env := [(323,f323.C),(324,f324.C),(37,f37.C),(326,f326.C)]
def f289.tree (a : T_interregnumref05_Reader) : Prop := ∃ c1 : T_interregnumref05_Reader × Int,((16 : Int) = c1.2)∧(a.1 = c1.1.1)∧(a.2.1 = c1.1.2.1)∧(a.2.2 = c1.1.2.2)∧(rfText_pre c1)∧∃ c2 : T_interregnumref05_Reader,((((rfText c1).2).1) = c2.1)∧((((rfText c1).2).2.1) = c2.2.1)∧((((rfText c1).2).2.2) = c2.2.2)∧(rd_pre c2)∧∃ c3 : T_api_Queue,(((rfText c1).1) = c3.1)∧((((rdAmt c2).1).1) = c3.2.1)∧((((rdAmt c2).1).2.1) = c3.2.2.1)∧((((rdAmt c2).1).2.2) = c3.2.2.2)∧(queue_pre c3)∧∃ c4 : T_interregnumref05_Reader × Bool,((queueB c3) = c4.2)∧((((rdAmt c2).2).1) = c4.1.1)∧((((rdAmt c2).2).2.1) = c4.1.2.1)∧((((rdAmt c2).2).2.2) = c4.1.2.2)∧True∧Br (!((rfDone c4).1)) ((ByteArray.empty = (((rfQueue a).1).1))∧((0 : Int) = ((((rfQueue a).1).2).1))∧((0 : Int) = ((((rfQueue a).1).2).2.1))∧((0 : Int) = ((((rfQueue a).1).2).2.2))∧((((rfDone c4).2).1) = (((rfQueue a).2).1))∧((((rfDone c4).2).2.1) = (((rfQueue a).2).2.1))∧((((rfDone c4).2).2.2) = (((rfQueue a).2).2.2))∧True) ((((rfText c1).1) = (((rfQueue a).1).1))∧((((rdAmt c2).1).1) = ((((rfQueue a).1).2).1))∧((((rdAmt c2).1).2.1) = ((((rfQueue a).1).2).2.1))∧((((rdAmt c2).1).2.2) = ((((rfQueue a).1).2).2.2))∧((((rfDone c4).2).1) = (((rfQueue a).2).1))∧((((rfDone c4).2).2.1) = (((rfQueue a).2).2.1))∧((((rfDone c4).2).2.2) = (((rfQueue a).2).2.2))∧True)
def f289.vc (a : T_interregnumref05_Reader) : Prop := (rfText_pre (a,(16 : Int))∧(rd_pre ((rfText (a,(16 : Int))).2)∧(queue_pre ((rfText (a,(16 : Int))).1,((rdAmt ((rfText (a,(16 : Int))).2)).1))∧((¬ (((rfDone (((rdAmt ((rfText (a,(16 : Int))).2)).2),(queueB ((rfText (a,(16 : Int))).1,((rdAmt ((rfText (a,(16 : Int))).2)).1))))).1) = true)→(((ByteArray.empty,((0 : Int),(0 : Int),(0 : Int))),((rfDone (((rdAmt ((rfText (a,(16 : Int))).2)).2),(queueB ((rfText (a,(16 : Int))).1,((rdAmt ((rfText (a,(16 : Int))).2)).1))))).2)) = rfQueue a))∧(¬ (¬ (((rfDone (((rdAmt ((rfText (a,(16 : Int))).2)).2),(queueB ((rfText (a,(16 : Int))).1,((rdAmt ((rfText (a,(16 : Int))).2)).1))))).1) = true))→((((rfText (a,(16 : Int))).1,((rdAmt ((rfText (a,(16 : Int))).2)).1)),((rfDone (((rdAmt ((rfText (a,(16 : Int))).2)).2),(queueB ((rfText (a,(16 : Int))).1,((rdAmt ((rfText (a,(16 : Int))).2)).1))))).2)) = rfQueue a))))))
set_option maxRecDepth 100000 in
set_option maxHeartbeats 2000000 in
theorem f289.of (a : T_interregnumref05_Reader) (h : f289.vc a) : f289.tree a := ⟨(a,(16 : Int)),⟨rfl,⟨rfl,⟨rfl,⟨rfl,⟨h.1,⟨((rfText (a,(16 : Int))).2),⟨rfl,⟨rfl,⟨rfl,⟨h.2.1,⟨((rfText (a,(16 : Int))).1,((rdAmt ((rfText (a,(16 : Int))).2)).1)),⟨rfl,⟨rfl,⟨rfl,⟨rfl,⟨h.2.2.1,⟨(((rdAmt ((rfText (a,(16 : Int))).2)).2),(queueB ((rfText (a,(16 : Int))).1,((rdAmt ((rfText (a,(16 : Int))).2)).1)))),⟨rfl,⟨rfl,⟨rfl,⟨rfl,⟨trivial,br h.2.2.2 (Cnd.not Cnd.b) (fun h5 k9 => ⟨(congrArg (fun x : T_api_Queue × T_interregnumref05_Reader => x.1.1) k9 :),⟨(congrArg (fun x : T_api_Queue × T_interregnumref05_Reader => x.1.2.1) k9 :),⟨(congrArg (fun x : T_api_Queue × T_interregnumref05_Reader => x.1.2.2.1) k9 :),⟨(congrArg (fun x : T_api_Queue × T_interregnumref05_Reader => x.1.2.2.2) k9 :),⟨(congrArg (fun x : T_api_Queue × T_interregnumref05_Reader => x.2.1) k9 :),⟨(congrArg (fun x : T_api_Queue × T_interregnumref05_Reader => x.2.2.1) k9 :),⟨(congrArg (fun x : T_api_Queue × T_interregnumref05_Reader => x.2.2.2) k9 :),trivial⟩⟩⟩⟩⟩⟩⟩) (fun h6 k10 => ⟨(congrArg (fun x : T_api_Queue × T_interregnumref05_Reader => x.1.1) k10 :),⟨(congrArg (fun x : T_api_Queue × T_interregnumref05_Reader => x.1.2.1) k10 :),⟨(congrArg (fun x : T_api_Queue × T_interregnumref05_Reader => x.1.2.2.1) k10 :),⟨(congrArg (fun x : T_api_Queue × T_interregnumref05_Reader => x.1.2.2.2) k10 :),⟨(congrArg (fun x : T_api_Queue × T_interregnumref05_Reader => x.2.1) k10 :),⟨(congrArg (fun x : T_api_Queue × T_interregnumref05_Reader => x.2.2.1) k10 :),⟨(congrArg (fun x : T_api_Queue × T_interregnumref05_Reader => x.2.2.2) k10 :),trivial⟩⟩⟩⟩⟩⟩⟩)⟩⟩⟩⟩⟩⟩⟩⟩⟩⟩⟩⟩⟩⟩⟩⟩⟩⟩⟩⟩⟩⟩⟩
theorem f289.eq (a : T_interregnumref05_Reader) : (f289.af a).gives f289.env (f289.args a) (f289.blks a) (f289.res a) (f289.blks' a) = f289.tree a := by kernel_rfl
end Go.Abs

-- (*interregnum/interregnumref05.Reader).Task
namespace Go.Abs
open Go
def f291.args (a : T_interregnumref05_Reader) : List D := [.ptr 0 0]
def f291.blks (a : T_interregnumref05_Reader) : List (List D) := [[.str a.1,.int .i64 a.2.1,.int .i64 a.2.2]]
def f291.res (a : T_interregnumref05_Reader) : List D := [.agg [.str (((rfTask a).1).1),.str (((rfTask a).1).2.1),.int .i64 (((rfTask a).1).2.2.1),.int .i64 ((((rfTask a).1).2.2.2.1).1),.int .i64 ((((rfTask a).1).2.2.2.1).2.1),.int .i64 ((((rfTask a).1).2.2.2.1).2.2),.slice .ro 2 ((((rfTask a).1).2.2.2.2.1).length) (gl e_api_Label (((rfTask a).1).2.2.2.2.1)),.str (((rfTask a).1).2.2.2.2.2.1),.str (((rfTask a).1).2.2.2.2.2.2.1),.int .i64 (((rfTask a).1).2.2.2.2.2.2.2)]]
def f291.blks' (a : T_interregnumref05_Reader) : List (List D) := [[.str (((rfTask a).2).1),.int .i64 (((rfTask a).2).2.1),.int .i64 (((rfTask a).2).2.2)]]
def f291.C : Contract := FnC f291.args f291.blks (fun a => rd_pre a) f291.res f291.blks'
end Go.Abs

/- (*interregnum/interregnumref05.Reader).Task -/
namespace Go.Abs
open Go
set_option linter.unusedVariables false
def f291.kills (a : T_interregnumref05_Reader) : List Hint := []
def f291.cuts (a : T_interregnumref05_Reader) : List (Nat × Σ β : Type,β→Tm) := []
def f291.af (a : T_interregnumref05_Reader) : AF := AF.mk (.seq (.region [⟨(some 2),1,(.alloc [.str ByteArray.empty,.str ByteArray.empty,.int .i64 (0),.int .i64 (0),.int .i64 (0),.int .i64 (0),.slice (.own 0) 2 0 gnil,.str ByteArray.empty,.str ByteArray.empty,.int .i64 (0)]),[],none⟩])
 (.seq (.region [⟨(some 4),12,.move,[.t 0],none⟩,
 ⟨(some 5),13,(.call true 323),[.t 4,.c (.int .i64 (16))],none⟩,
 ⟨(some 6),17,(.build [.str ByteArray.empty,.str ByteArray.empty,.int .i64 (0),.int .i64 (0),.int .i64 (0),.int .i64 (0),.slice .full 2 0 gnil,.str ByteArray.empty,.str ByteArray.empty,.int .i64 (0)] [(0,1)]),[.t 5],none⟩,
 ⟨(some 3),18,(.alloc [.str ByteArray.empty,.str ByteArray.empty,.int .i64 (0),.int .i64 (0),.int .i64 (0),.int .i64 (0),.slice (.own 0) 2 0 gnil,.str ByteArray.empty,.str ByteArray.empty,.int .i64 (0)]),[],none⟩,
 ⟨none,29,(.store 10),[.t 3,.t 6],none⟩])
 (.seq (.region [⟨(some 7),30,.move,[.t 0],none⟩,
 ⟨(some 8),31,(.call true 323),[.t 7,.c (.int .i64 (16))],none⟩,
 ⟨(some 9),35,(.fieldAddr 1),[.t 3],none⟩,
 ⟨none,36,(.store 1),[.t 9,.t 8],none⟩])
 (.seq (.region [⟨(some 10),37,.move,[.t 0],none⟩,
 ⟨(some 11),38,(.call true 327),[.t 10,.c (.int .i64 (1048576)),.c (.int .i64 (3))],none⟩,
 ⟨(some 12),42,(.fieldAddr 2),[.t 3],none⟩,
 ⟨none,43,(.store 1),[.t 12,.t 11],none⟩])
 (.seq (.region [⟨(some 13),44,.move,[.t 0],none⟩,
 ⟨(some 14),45,(.call true 324),[.t 13],none⟩,
 ⟨(some 15),49,(.fieldAddr 3),[.t 3],none⟩,
 ⟨none,50,(.store 3),[.t 15,.t 14],none⟩])
 (.seq (.region [⟨(some 16),51,.move,[.t 0],none⟩,
 ⟨(some 17),52,(.call true 325),[.t 16],none⟩,
 ⟨(some 18),56,(.fieldAddr 6),[.t 3],none⟩,
 ⟨none,57,(.store 1),[.t 18,.t 17],none⟩])
 (.seq (.region [⟨(some 19),58,.move,[.t 0],none⟩,
 ⟨(some 20),59,(.call true 323),[.t 19,.c (.int .i64 (16))],none⟩,
 ⟨(some 21),63,(.fieldAddr 7),[.t 3],none⟩,
 ⟨none,64,(.store 1),[.t 21,.t 20],none⟩])
 (.seq (.region [⟨(some 22),65,.move,[.t 0],none⟩,
 ⟨(some 23),66,(.call true 323),[.t 22,.c (.int .i64 (16))],none⟩,
 ⟨(some 24),70,(.fieldAddr 8),[.t 3],none⟩,
 ⟨none,71,(.store 1),[.t 24,.t 23],none⟩])
 (.seq (.region [⟨(some 25),72,.move,[.t 0],none⟩,
 ⟨(some 26),73,(.call true 327),[.t 25,.c (.int .i64 (1048576)),.c (.int .i64 (3))],none⟩,
 ⟨(some 27),77,(.fieldAddr 9),[.t 3],none⟩,
 ⟨none,78,(.store 1),[.t 27,.t 26],none⟩])
 (.seq (.seq (.region [⟨(some 28),79,.move,[.t 0],none⟩,
 ⟨(some 29),80,(.load true 10),[.t 3],none⟩,
 ⟨(some 30),81,(.call false 38),[.t 29],none⟩,
 ⟨(some 31),85,(.call true 326),[.t 28,.t 30],none⟩,
 ⟨(some 32),89,(.un .not),[.t 31],none⟩])
 (.cond (.t 32) (.seq (.region [⟨(some 33),90,(.build [.str ByteArray.empty,.str ByteArray.empty,.int .i64 (0),.int .i64 (0),.int .i64 (0),.int .i64 (0),.slice .full 2 0 gnil,.str ByteArray.empty,.str ByteArray.empty,.int .i64 (0)] []),[],none⟩,
 ⟨none,91,(.store 10),[.t 2,.t 33],none⟩])
 (.ret)) (.skip)))
 (.seq (.region [⟨(some 34),92,(.load true 10),[.t 3],none⟩,
 ⟨none,93,(.store 10),[.t 2,.t 34],none⟩])
 (.ret))))))))))))
 [.cell 2 true 10] 1 34
def f291.env : Env := [(323,f323.C),(327,f327.C),(324,f324.C),(325,f325.C),(38,f38.C),(326,f326.C)]
def f291.tree (a : T_interregnumref05_Reader) : Prop := ∃ c1 : T_interregnumref05_Reader × Int,((16 : Int) = c1.2)∧(a.1 = c1.1.1)∧(a.2.1 = c1.1.2.1)∧(a.2.2 = c1.1.2.2)∧(rfText_pre c1)∧∃ c2 : T_interregnumref05_Reader × Int,((16 : Int) = c2.2)∧((((rfText c1).2).1) = c2.1.1)∧((((rfText c1).2).2.1) = c2.1.2.1)∧((((rfText c1).2).2.2) = c2.1.2.2)∧(rfText_pre c2)∧∃ c3 : T_interregnumref05_Reader × Int × Int,((1048576 : Int) = c3.2.1)∧((3 : Int) = c3.2.2)∧((((rfText c2).2).1) = c3.1.1)∧((((rfText c2).2).2.1) = c3.1.2.1)∧((((rfText c2).2).2.2) = c3.1.2.2)∧(rdNum_pre c3)∧∃ c4 : T_interregnumref05_Reader,((((rdNum c3).2).1) = c4.1)∧((((rdNum c3).2).2.1) = c4.2.1)∧((((rdNum c3).2).2.2) = c4.2.2)∧(rd_pre c4)∧∃ c5 : T_interregnumref05_Reader,((((rdAmt c4).2).1) = c5.1)∧((((rdAmt c4).2).2.1) = c5.2.1)∧((((rdAmt c4).2).2.2) = c5.2.2)∧(rd_pre c5)∧∃ c6 : T_interregnumref05_Reader × Int,((16 : Int) = c6.2)∧((((rfLbls c5).2).1) = c6.1.1)∧((((rfLbls c5).2).2.1) = c6.1.2.1)∧((((rfLbls c5).2).2.2) = c6.1.2.2)∧(rfText_pre c6)∧∃ c7 : T_interregnumref05_Reader × Int,((16 : Int) = c7.2)∧((((rfText c6).2).1) = c7.1.1)∧((((rfText c6).2).2.1) = c7.1.2.1)∧((((rfText c6).2).2.2) = c7.1.2.2)∧(rfText_pre c7)∧∃ c8 : T_interregnumref05_Reader × Int × Int,((1048576 : Int) = c8.2.1)∧((3 : Int) = c8.2.2)∧((((rfText c7).2).1) = c8.1.1)∧((((rfText c7).2).2.1) = c8.1.2.1)∧((((rfText c7).2).2.2) = c8.1.2.2)∧(rdNum_pre c8)∧∃ c9 : T_api_Task,(((rfText c1).1) = c9.1)∧(((rfText c2).1) = c9.2.1)∧(((rdNum c3).1) = c9.2.2.1)∧((((rdAmt c4).1).1) = c9.2.2.2.1.1)∧((((rdAmt c4).1).2.1) = c9.2.2.2.1.2.1)∧((((rdAmt c4).1).2.2) = c9.2.2.2.1.2.2)∧((((rfLbls c5).1).length) = c9.2.2.2.2.1.length)∧(∀ i,i < c9.2.2.2.2.1.length→DEqs ((gl e_api_Label ((rfLbls c5).1)) i) ((gl e_api_Label c9.2.2.2.2.1) i))∧(((rfText c6).1) = c9.2.2.2.2.2.1)∧(((rfText c7).1) = c9.2.2.2.2.2.2.1)∧(((rdNum c8).1) = c9.2.2.2.2.2.2.2)∧(task_pre c9)∧∃ c10 : T_interregnumref05_Reader × Bool,((taskB c9) = c10.2)∧((((rdNum c8).2).1) = c10.1.1)∧((((rdNum c8).2).2.1) = c10.1.2.1)∧((((rdNum c8).2).2.2) = c10.1.2.2)∧True∧Br (!((rfDone c10).1)) ((ByteArray.empty = (((rfTask a).1).1))∧(ByteArray.empty = (((rfTask a).1).2.1))∧((0 : Int) = (((rfTask a).1).2.2.1))∧((0 : Int) = ((((rfTask a).1).2.2.2.1).1))∧((0 : Int) = ((((rfTask a).1).2.2.2.1).2.1))∧((0 : Int) = ((((rfTask a).1).2.2.2.1).2.2))∧(0 = ((((rfTask a).1).2.2.2.2.1).length))∧(∀ i,i < ((((rfTask a).1).2.2.2.2.1).length)→DEqs (gnil i) ((gl e_api_Label (((rfTask a).1).2.2.2.2.1)) i))∧(ByteArray.empty = (((rfTask a).1).2.2.2.2.2.1))∧(ByteArray.empty = (((rfTask a).1).2.2.2.2.2.2.1))∧((0 : Int) = (((rfTask a).1).2.2.2.2.2.2.2))∧((((rfDone c10).2).1) = (((rfTask a).2).1))∧((((rfDone c10).2).2.1) = (((rfTask a).2).2.1))∧((((rfDone c10).2).2.2) = (((rfTask a).2).2.2))∧True) ((((rfText c1).1) = (((rfTask a).1).1))∧(((rfText c2).1) = (((rfTask a).1).2.1))∧(((rdNum c3).1) = (((rfTask a).1).2.2.1))∧((((rdAmt c4).1).1) = ((((rfTask a).1).2.2.2.1).1))∧((((rdAmt c4).1).2.1) = ((((rfTask a).1).2.2.2.1).2.1))∧((((rdAmt c4).1).2.2) = ((((rfTask a).1).2.2.2.1).2.2))∧((((rfLbls c5).1).length) = ((((rfTask a).1).2.2.2.2.1).length))∧(∀ i,i < ((((rfTask a).1).2.2.2.2.1).length)→DEqs ((gl e_api_Label ((rfLbls c5).1)) i) ((gl e_api_Label (((rfTask a).1).2.2.2.2.1)) i))∧(((rfText c6).1) = (((rfTask a).1).2.2.2.2.2.1))∧(((rfText c7).1) = (((rfTask a).1).2.2.2.2.2.2.1))∧(((rdNum c8).1) = (((rfTask a).1).2.2.2.2.2.2.2))∧((((rfDone c10).2).1) = (((rfTask a).2).1))∧((((rfDone c10).2).2.1) = (((rfTask a).2).2.1))∧((((rfDone c10).2).2.2) = (((rfTask a).2).2.2))∧True)
def f291.vc (a : T_interregnumref05_Reader) : Prop := (rfText_pre (a,(16 : Int))∧(rfText_pre (((rfText (a,(16 : Int))).2),(16 : Int))∧(rdNum_pre (((rfText (((rfText (a,(16 : Int))).2),(16 : Int))).2),(1048576 : Int),(3 : Int))∧(rd_pre ((rdNum (((rfText (((rfText (a,(16 : Int))).2),(16 : Int))).2),(1048576 : Int),(3 : Int))).2)∧(rd_pre ((rdAmt ((rdNum (((rfText (((rfText (a,(16 : Int))).2),(16 : Int))).2),(1048576 : Int),(3 : Int))).2)).2)∧(rfText_pre (((rfLbls ((rdAmt ((rdNum (((rfText (((rfText (a,(16 : Int))).2),(16 : Int))).2),(1048576 : Int),(3 : Int))).2)).2)).2),(16 : Int))∧(rfText_pre (((rfText (((rfLbls ((rdAmt ((rdNum (((rfText (((rfText (a,(16 : Int))).2),(16 : Int))).2),(1048576 : Int),(3 : Int))).2)).2)).2),(16 : Int))).2),(16 : Int))∧(rdNum_pre (((rfText (((rfText (((rfLbls ((rdAmt ((rdNum (((rfText (((rfText (a,(16 : Int))).2),(16 : Int))).2),(1048576 : Int),(3 : Int))).2)).2)).2),(16 : Int))).2),(16 : Int))).2),(1048576 : Int),(3 : Int))∧(task_pre ((rfText (a,(16 : Int))).1,(rfText (((rfText (a,(16 : Int))).2),(16 : Int))).1,(rdNum (((rfText (((rfText (a,(16 : Int))).2),(16 : Int))).2),(1048576 : Int),(3 : Int))).1,((rdAmt ((rdNum (((rfText (((rfText (a,(16 : Int))).2),(16 : Int))).2),(1048576 : Int),(3 : Int))).2)).1),(rfLbls ((rdAmt ((rdNum (((rfText (((rfText (a,(16 : Int))).2),(16 : Int))).2),(1048576 : Int),(3 : Int))).2)).2)).1,(rfText (((rfLbls ((rdAmt ((rdNum (((rfText (((rfText (a,(16 : Int))).2),(16 : Int))).2),(1048576 : Int),(3 : Int))).2)).2)).2),(16 : Int))).1,(rfText (((rfText (((rfLbls ((rdAmt ((rdNum (((rfText (((rfText (a,(16 : Int))).2),(16 : Int))).2),(1048576 : Int),(3 : Int))).2)).2)).2),(16 : Int))).2),(16 : Int))).1,(rdNum (((rfText (((rfText (((rfLbls ((rdAmt ((rdNum (((rfText (((rfText (a,(16 : Int))).2),(16 : Int))).2),(1048576 : Int),(3 : Int))).2)).2)).2),(16 : Int))).2),(16 : Int))).2),(1048576 : Int),(3 : Int))).1)∧((¬ (((rfDone (((rdNum (((rfText (((rfText (((rfLbls ((rdAmt ((rdNum (((rfText (((rfText (a,(16 : Int))).2),(16 : Int))).2),(1048576 : Int),(3 : Int))).2)).2)).2),(16 : Int))).2),(16 : Int))).2),(1048576 : Int),(3 : Int))).2),(taskB ((rfText (a,(16 : Int))).1,(rfText (((rfText (a,(16 : Int))).2),(16 : Int))).1,(rdNum (((rfText (((rfText (a,(16 : Int))).2),(16 : Int))).2),(1048576 : Int),(3 : Int))).1,((rdAmt ((rdNum (((rfText (((rfText (a,(16 : Int))).2),(16 : Int))).2),(1048576 : Int),(3 : Int))).2)).1),(rfLbls ((rdAmt ((rdNum (((rfText (((rfText (a,(16 : Int))).2),(16 : Int))).2),(1048576 : Int),(3 : Int))).2)).2)).1,(rfText (((rfLbls ((rdAmt ((rdNum (((rfText (((rfText (a,(16 : Int))).2),(16 : Int))).2),(1048576 : Int),(3 : Int))).2)).2)).2),(16 : Int))).1,(rfText (((rfText (((rfLbls ((rdAmt ((rdNum (((rfText (((rfText (a,(16 : Int))).2),(16 : Int))).2),(1048576 : Int),(3 : Int))).2)).2)).2),(16 : Int))).2),(16 : Int))).1,(rdNum (((rfText (((rfText (((rfLbls ((rdAmt ((rdNum (((rfText (((rfText (a,(16 : Int))).2),(16 : Int))).2),(1048576 : Int),(3 : Int))).2)).2)).2),(16 : Int))).2),(16 : Int))).2),(1048576 : Int),(3 : Int))).1)))).1) = true)→(((ByteArray.empty,ByteArray.empty,(0 : Int),((0 : Int),(0 : Int),(0 : Int)),[],ByteArray.empty,ByteArray.empty,(0 : Int)),((rfDone (((rdNum (((rfText (((rfText (((rfLbls ((rdAmt ((rdNum (((rfText (((rfText (a,(16 : Int))).2),(16 : Int))).2),(1048576 : Int),(3 : Int))).2)).2)).2),(16 : Int))).2),(16 : Int))).2),(1048576 : Int),(3 : Int))).2),(taskB ((rfText (a,(16 : Int))).1,(rfText (((rfText (a,(16 : Int))).2),(16 : Int))).1,(rdNum (((rfText (((rfText (a,(16 : Int))).2),(16 : Int))).2),(1048576 : Int),(3 : Int))).1,((rdAmt ((rdNum (((rfText (((rfText (a,(16 : Int))).2),(16 : Int))).2),(1048576 : Int),(3 : Int))).2)).1),(rfLbls ((rdAmt ((rdNum (((rfText (((rfText (a,(16 : Int))).2),(16 : Int))).2),(1048576 : Int),(3 : Int))).2)).2)).1,(rfText (((rfLbls ((rdAmt ((rdNum (((rfText (((rfText (a,(16 : Int))).2),(16 : Int))).2),(1048576 : Int),(3 : Int))).2)).2)).2),(16 : Int))).1,(rfText (((rfText (((rfLbls ((rdAmt ((rdNum (((rfText (((rfText (a,(16 : Int))).2),(16 : Int))).2),(1048576 : Int),(3 : Int))).2)).2)).2),(16 : Int))).2),(16 : Int))).1,(rdNum (((rfText (((rfText (((rfLbls ((rdAmt ((rdNum (((rfText (((rfText (a,(16 : Int))).2),(16 : Int))).2),(1048576 : Int),(3 : Int))).2)).2)).2),(16 : Int))).2),(16 : Int))).2),(1048576 : Int),(3 : Int))).1)))).2)) = rfTask a))∧(¬ (¬ (((rfDone (((rdNum (((rfText (((rfText (((rfLbls ((rdAmt ((rdNum (((rfText (((rfText (a,(16 : Int))).2),(16 : Int))).2),(1048576 : Int),(3 : Int))).2)).2)).2),(16 : Int))).2),(16 : Int))).2),(1048576 : Int),(3 : Int))).2),(taskB ((rfText (a,(16 : Int))).1,(rfText (((rfText (a,(16 : Int))).2),(16 : Int))).1,(rdNum (((rfText (((rfText (a,(16 : Int))).2),(16 : Int))).2),(1048576 : Int),(3 : Int))).1,((rdAmt ((rdNum (((rfText (((rfText (a,(16 : Int))).2),(16 : Int))).2),(1048576 : Int),(3 : Int))).2)).1),(rfLbls ((rdAmt ((rdNum (((rfText (((rfText (a,(16 : Int))).2),(16 : Int))).2),(1048576 : Int),(3 : Int))).2)).2)).1,(rfText (((rfLbls ((rdAmt ((rdNum (((rfText (((rfText (a,(16 : Int))).2),(16 : Int))).2),(1048576 : Int),(3 : Int))).2)).2)).2),(16 : Int))).1,(rfText (((rfText (((rfLbls ((rdAmt ((rdNum (((rfText (((rfText (a,(16 : Int))).2),(16 : Int))).2),(1048576 : Int),(3 : Int))).2)).2)).2),(16 : Int))).2),(16 : Int))).1,(rdNum (((rfText (((rfText (((rfLbls ((rdAmt ((rdNum (((rfText (((rfText (a,(16 : Int))).2),(16 : Int))).2),(1048576 : Int),(3 : Int))).2)).2)).2),(16 : Int))).2),(16 : Int))).2),(1048576 : Int),(3 : Int))).1)))).1) = true))→((((rfText (a,(16 : Int))).1,(rfText (((rfText (a,(16 : Int))).2),(16 : Int))).1,(rdNum (((rfText (((rfText (a,(16 : Int))).2),(16 : Int))).2),(1048576 : Int),(3 : Int))).1,((rdAmt ((rdNum (((rfText (((rfText (a,(16 : Int))).2),(16 : Int))).2),(1048576 : Int),(3 : Int))).2)).1),(rfLbls ((rdAmt ((rdNum (((rfText (((rfText (a,(16 : Int))).2),(16 : Int))).2),(1048576 : Int),(3 : Int))).2)).2)).1,(rfText (((rfLbls ((rdAmt ((rdNum (((rfText (((rfText (a,(16 : Int))).2),(16 : Int))).2),(1048576 : Int),(3 : Int))).2)).2)).2),(16 : Int))).1,(rfText (((rfText (((rfLbls ((rdAmt ((rdNum (((rfText (((rfText (a,(16 : Int))).2),(16 : Int))).2),(1048576 : Int),(3 : Int))).2)).2)).2),(16 : Int))).2),(16 : Int))).1,(rdNum (((rfText (((rfText (((rfLbls ((rdAmt ((rdNum (((rfText (((rfText (a,(16 : Int))).2),(16 : Int))).2),(1048576 : Int),(3 : Int))).2)).2)).2),(16 : Int))).2),(16 : Int))).2),(1048576 : Int),(3 : Int))).1),((rfDone (((rdNum (((rfText (((rfText (((rfLbls ((rdAmt ((rdNum (((rfText (((rfText (a,(16 : Int))).2),(16 : Int))).2),(1048576 : Int),(3 : Int))).2)).2)).2),(16 : Int))).2),(16 : Int))).2),(1048576 : Int),(3 : Int))).2),(taskB ((rfText (a,(16 : Int))).1,(rfText (((rfText (a,(16 : Int))).2),(16 : Int))).1,(rdNum (((rfText (((rfText (a,(16 : Int))).2),(16 : Int))).2),(1048576 : Int),(3 : Int))).1,((rdAmt ((rdNum (((rfText (((rfText (a,(16 : Int))).2),(16 : Int))).2),(1048576 : Int),(3 : Int))).2)).1),(rfLbls ((rdAmt ((rdNum (((rfText (((rfText (a,(16 : Int))).2),(16 : Int))).2),(1048576 : Int),(3 : Int))).2)).2)).1,(rfText (((rfLbls ((rdAmt ((rdNum (((rfText (((rfText (a,(16 : Int))).2),(16 : Int))).2),(1048576 : Int),(3 : Int))).2)).2)).2),(16 : Int))).1,(rfText (((rfText (((rfLbls ((rdAmt ((rdNum (((rfText (((rfText (a,(16 : Int))).2),(16 : Int))).2),(1048576 : Int),(3 : Int))).2)).2)).2),(16 : Int))).2),(16 : Int))).1,(rdNum (((rfText (((rfText (((rfLbls ((rdAmt ((rdNum (((rfText (((rfText (a,(16 : Int))).2),(16 : Int))).2),(1048576 : Int),(3 : Int))).2)).2)).2),(16 : Int))).2),(16 : Int))).2),(1048576 : Int),(3 : Int))).1)))).2)) = rfTask a))))))))))))
set_option maxRecDepth 100000 in
set_option maxHeartbeats 2000000 in
theorem f291.of (a : T_interregnumref05_Reader) (h : f291.vc a) : f291.tree a := ⟨(a,(16 : Int)),⟨rfl,⟨rfl,⟨rfl,⟨rfl,⟨h.1,⟨(((rfText (a,(16 : Int))).2),(16 : Int)),⟨rfl,⟨rfl,⟨rfl,⟨rfl,⟨h.2.1,⟨(((rfText (((rfText (a,(16 : Int))).2),(16 : Int))).2),(1048576 : Int),(3 : Int)),⟨rfl,⟨rfl,⟨rfl,⟨rfl,⟨rfl,⟨h.2.2.1,⟨((rdNum (((rfText (((rfText (a,(16 : Int))).2),(16 : Int))).2),(1048576 : Int),(3 : Int))).2),⟨rfl,⟨rfl,⟨rfl,⟨h.2.2.2.1,⟨((rdAmt ((rdNum (((rfText (((rfText (a,(16 : Int))).2),(16 : Int))).2),(1048576 : Int),(3 : Int))).2)).2),⟨rfl,⟨rfl,⟨rfl,⟨h.2.2.2.2.1,⟨(((rfLbls ((rdAmt ((rdNum (((rfText (((rfText (a,(16 : Int))).2),(16 : Int))).2),(1048576 : Int),(3 : Int))).2)).2)).2),(16 : Int)),⟨rfl,⟨rfl,⟨rfl,⟨rfl,⟨h.2.2.2.2.2.1,⟨(((rfText (((rfLbls ((rdAmt ((rdNum (((rfText (((rfText (a,(16 : Int))).2),(16 : Int))).2),(1048576 : Int),(3 : Int))).2)).2)).2),(16 : Int))).2),(16 : Int)),⟨rfl,⟨rfl,⟨rfl,⟨rfl,⟨h.2.2.2.2.2.2.1,⟨(((rfText (((rfText (((rfLbls ((rdAmt ((rdNum (((rfText (((rfText (a,(16 : Int))).2),(16 : Int))).2),(1048576 : Int),(3 : Int))).2)).2)).2),(16 : Int))).2),(16 : Int))).2),(1048576 : Int),(3 : Int)),⟨rfl,⟨rfl,⟨rfl,⟨rfl,⟨rfl,⟨h.2.2.2.2.2.2.2.1,⟨((rfText (a,(16 : Int))).1,(rfText (((rfText (a,(16 : Int))).2),(16 : Int))).1,(rdNum (((rfText (((rfText (a,(16 : Int))).2),(16 : Int))).2),(1048576 : Int),(3 : Int))).1,((rdAmt ((rdNum (((rfText (((rfText (a,(16 : Int))).2),(16 : Int))).2),(1048576 : Int),(3 : Int))).2)).1),(rfLbls ((rdAmt ((rdNum (((rfText (((rfText (a,(16 : Int))).2),(16 : Int))).2),(1048576 : Int),(3 : Int))).2)).2)).1,(rfText (((rfLbls ((rdAmt ((rdNum (((rfText (((rfText (a,(16 : Int))).2),(16 : Int))).2),(1048576 : Int),(3 : Int))).2)).2)).2),(16 : Int))).1,(rfText (((rfText (((rfLbls ((rdAmt ((rdNum (((rfText (((rfText (a,(16 : Int))).2),(16 : Int))).2),(1048576 : Int),(3 : Int))).2)).2)).2),(16 : Int))).2),(16 : Int))).1,(rdNum (((rfText (((rfText (((rfLbls ((rdAmt ((rdNum (((rfText (((rfText (a,(16 : Int))).2),(16 : Int))).2),(1048576 : Int),(3 : Int))).2)).2)).2),(16 : Int))).2),(16 : Int))).2),(1048576 : Int),(3 : Int))).1),⟨rfl,⟨rfl,⟨rfl,⟨rfl,⟨rfl,⟨rfl,slK (Rds.self (enc := e_api_Label)) (⟨rfl,⟨rfl,⟨rfl,⟨h.2.2.2.2.2.2.2.2.1,⟨(((rdNum (((rfText (((rfText (((rfLbls ((rdAmt ((rdNum (((rfText (((rfText (a,(16 : Int))).2),(16 : Int))).2),(1048576 : Int),(3 : Int))).2)).2)).2),(16 : Int))).2),(16 : Int))).2),(1048576 : Int),(3 : Int))).2),(taskB ((rfText (a,(16 : Int))).1,(rfText (((rfText (a,(16 : Int))).2),(16 : Int))).1,(rdNum (((rfText (((rfText (a,(16 : Int))).2),(16 : Int))).2),(1048576 : Int),(3 : Int))).1,((rdAmt ((rdNum (((rfText (((rfText (a,(16 : Int))).2),(16 : Int))).2),(1048576 : Int),(3 : Int))).2)).1),(rfLbls ((rdAmt ((rdNum (((rfText (((rfText (a,(16 : Int))).2),(16 : Int))).2),(1048576 : Int),(3 : Int))).2)).2)).1,(rfText (((rfLbls ((rdAmt ((rdNum (((rfText (((rfText (a,(16 : Int))).2),(16 : Int))).2),(1048576 : Int),(3 : Int))).2)).2)).2),(16 : Int))).1,(rfText (((rfText (((rfLbls ((rdAmt ((rdNum (((rfText (((rfText (a,(16 : Int))).2),(16 : Int))).2),(1048576 : Int),(3 : Int))).2)).2)).2),(16 : Int))).2),(16 : Int))).1,(rdNum (((rfText (((rfText (((rfLbls ((rdAmt ((rdNum (((rfText (((rfText (a,(16 : Int))).2),(16 : Int))).2),(1048576 : Int),(3 : Int))).2)).2)).2),(16 : Int))).2),(16 : Int))).2),(1048576 : Int),(3 : Int))).1))),⟨rfl,⟨rfl,⟨rfl,⟨rfl,⟨trivial,br h.2.2.2.2.2.2.2.2.2 (Cnd.not Cnd.b) (fun h11 k15 => ⟨(congrArg (fun x : T_api_Task × T_interregnumref05_Reader => x.1.1) k15 :),⟨(congrArg (fun x : T_api_Task × T_interregnumref05_Reader => x.1.2.1) k15 :),⟨(congrArg (fun x : T_api_Task × T_interregnumref05_Reader => x.1.2.2.1) k15 :),⟨(congrArg (fun x : T_api_Task × T_interregnumref05_Reader => x.1.2.2.2.1.1) k15 :),⟨(congrArg (fun x : T_api_Task × T_interregnumref05_Reader => x.1.2.2.2.1.2.1) k15 :),⟨(congrArg (fun x : T_api_Task × T_interregnumref05_Reader => x.1.2.2.2.1.2.2) k15 :),slK (Rds.to (Rds.nil (enc := e_api_Label)) (congrArg (fun x : T_api_Task × T_interregnumref05_Reader => x.1.2.2.2.2.1) k15 :)) (⟨(congrArg (fun x : T_api_Task × T_interregnumref05_Reader => x.1.2.2.2.2.2.1) k15 :),⟨(congrArg (fun x : T_api_Task × T_interregnumref05_Reader => x.1.2.2.2.2.2.2.1) k15 :),⟨(congrArg (fun x : T_api_Task × T_interregnumref05_Reader => x.1.2.2.2.2.2.2.2) k15 :),⟨(congrArg (fun x : T_api_Task × T_interregnumref05_Reader => x.2.1) k15 :),⟨(congrArg (fun x : T_api_Task × T_interregnumref05_Reader => x.2.2.1) k15 :),⟨(congrArg (fun x : T_api_Task × T_interregnumref05_Reader => x.2.2.2) k15 :),trivial⟩⟩⟩⟩⟩⟩)⟩⟩⟩⟩⟩⟩) (fun h12 k16 => ⟨(congrArg (fun x : T_api_Task × T_interregnumref05_Reader => x.1.1) k16 :),⟨(congrArg (fun x : T_api_Task × T_interregnumref05_Reader => x.1.2.1) k16 :),⟨(congrArg (fun x : T_api_Task × T_interregnumref05_Reader => x.1.2.2.1) k16 :),⟨(congrArg (fun x : T_api_Task × T_interregnumref05_Reader => x.1.2.2.2.1.1) k16 :),⟨(congrArg (fun x : T_api_Task × T_interregnumref05_Reader => x.1.2.2.2.1.2.1) k16 :),⟨(congrArg (fun x : T_api_Task × T_interregnumref05_Reader => x.1.2.2.2.1.2.2) k16 :),slK (Rds.to (Rds.self (enc := e_api_Label)) (congrArg (fun x : T_api_Task × T_interregnumref05_Reader => x.1.2.2.2.2.1) k16 :)) (⟨(congrArg (fun x : T_api_Task × T_interregnumref05_Reader => x.1.2.2.2.2.2.1) k16 :),⟨(congrArg (fun x : T_api_Task × T_interregnumref05_Reader => x.1.2.2.2.2.2.2.1) k16 :),⟨(congrArg (fun x : T_api_Task × T_interregnumref05_Reader => x.1.2.2.2.2.2.2.2) k16 :),⟨(congrArg (fun x : T_api_Task × T_interregnumref05_Reader => x.2.1) k16 :),⟨(congrArg (fun x : T_api_Task × T_interregnumref05_Reader => x.2.2.1) k16 :),⟨(congrArg (fun x : T_api_Task × T_interregnumref05_Reader => x.2.2.2) k16 :),trivial⟩⟩⟩⟩⟩⟩)⟩⟩⟩⟩⟩⟩)⟩⟩⟩⟩⟩⟩⟩⟩⟩⟩)⟩⟩⟩⟩⟩⟩⟩⟩⟩⟩⟩⟩⟩⟩⟩⟩⟩⟩⟩⟩⟩⟩⟩⟩⟩⟩⟩⟩⟩⟩⟩⟩⟩⟩⟩⟩⟩⟩⟩⟩⟩⟩⟩⟩⟩⟩⟩⟩⟩⟩⟩⟩⟩⟩⟩
theorem f291.eq (a : T_interregnumref05_Reader) : (f291.af a).gives f291.env (f291.args a) (f291.blks a) (f291.res a) (f291.blks' a) = f291.tree a := by kernel_rfl
end Go.Abs

-- interregnum/interregnumlaw05.place
namespace Go.Abs
open Go
end Go.Abs

/- interregnum/interregnumlaw05.place -/
namespace Go.Abs
open Go
set_option linter.unusedVariables false
end Go.Abs

-- interregnum/interregnumref04.Same
namespace Go.Abs
open Go
def f322.args (a : (List (T_api_Label)) × (List (T_api_Label))) : List D := [.slice .ro 2 a.1.length (gl e_api_Label a.1),.slice .ro 2 a.2.length (gl e_api_Label a.2)]
def f322.blks (a : (List (T_api_Label)) × (List (T_api_Label))) : List (List D) := []
def f322.res (a : (List (T_api_Label)) × (List (T_api_Label))) : List D := [.bool (sameLbls a)]
def f322.blks' (a : (List (T_api_Label)) × (List (T_api_Label))) : List (List D) := []
def f322.C : Contract := FnC f322.args f322.blks (fun a => LLL20 a) f322.res f322.blks'
end Go.Abs

/- interregnum/interregnumref04.Same -/
namespace Go.Abs
open Go
set_option linter.unusedVariables false
def f322.kills (a : (List (T_api_Label)) × (List (T_api_Label))) : List Hint := [.tell Int (fun x => ⟨[.slice .ro 2 a.1.length (gl e_api_Label a.1),.slice .ro 2 a.2.length (gl e_api_Label a.2),.dead,.dead,.dead,.dead,.dead,.dead,.dead,.dead,.dead,.dead,.int .i64 (a.1.length : Int),.int .i64 x,.dead,.dead,.dead,.dead,.dead,.dead,.dead,.dead,.dead,.dead,.dead,.dead],[],[]⟩)]
def f322.cuts (a : (List (T_api_Label)) × (List (T_api_Label))) : List (Nat × Σ β : Type,β→Tm) := []
def f322.af (a : (List (T_api_Label)) × (List (T_api_Label))) : AF := AF.mk (.seq (.region [⟨(some 4),0,.move,[.c (.bool false)],none⟩])
 (.seq (.seq (.region [⟨(some 6),1,.move,[.t 0],none⟩,
 ⟨(some 7),2,(.len false),[.t 6],none⟩,
 ⟨(some 8),3,.move,[.t 1],none⟩,
 ⟨(some 9),4,(.len false),[.t 8],none⟩,
 ⟨(some 10),5,(.bin .neq),[.t 7,.t 9],none⟩])
 (.cond (.t 10) (.seq (.region [⟨(some 4),6,.move,[.c (.bool false)],none⟩])
 (.ret)) (.skip)))
 (.seq (.seq (.region [⟨(some 11),7,.move,[.t 0],none⟩,
 ⟨(some 12),8,(.len false),[.t 11],none⟩,
 ⟨(some 13),9,.move,[.c (.int .i64 (0))],none⟩])
 (.block 0 (.loopT Int (fun x => ⟨[.slice .ro 2 a.1.length (gl e_api_Label a.1),.slice .ro 2 a.2.length (gl e_api_Label a.2),.dead,.dead,.dead,.dead,.dead,.dead,.dead,.dead,.dead,.dead,.int .i64 (a.1.length : Int),.int .i64 x,.dead,.dead,.dead,.dead,.dead,.dead,.dead,.dead,.dead,.dead,.dead,.dead],[],[]⟩) 10 25 (.seq (.region [⟨(some 14),10,(.bin .lss),[.t 13,.t 12],none⟩])
 (.seq (.cond (.t 14) (.skip) (.exit 0))
 (.seq (.block 1 (.seq (.region [⟨(some 15),11,.move,[.t 13],none⟩,
 ⟨(some 5),12,.move,[.t 15],none⟩])
 (.seq (.region [⟨(some 16),13,.move,[.t 0],none⟩,
 ⟨(some 17),14,.move,[.t 5],none⟩,
 ⟨(some 18),15,(.indexAddr 2 none),[.t 16,.t 17],none⟩,
 ⟨(some 19),16,(.load true 2),[.t 18],none⟩,
 ⟨(some 20),17,.move,[.t 1],none⟩,
 ⟨(some 21),18,.move,[.t 5],none⟩,
 ⟨(some 22),19,(.indexAddr 2 none),[.t 20,.t 21],none⟩,
 ⟨(some 23),20,(.load true 2),[.t 22],none⟩,
 ⟨(some 24),21,(.eqAgg true [2,2]),[.t 19,.t 23],none⟩])
 (.cond (.t 24) (.seq (.region [⟨(some 4),22,.move,[.c (.bool false)],none⟩])
 (.ret)) (.skip)))))
 (.region [⟨(some 25),23,(.bin .add),[.t 13,.c (.int .i64 (1))],none⟩,
 ⟨(some 13),24,.move,[.t 25],none⟩])))))))
 (.seq (.region [⟨(some 4),25,.move,[.c (.bool true)],none⟩])
 (.ret)))))
 [.tmp 4] 0 24
def f322.env : Env := []
def f322.tree (a : (List (T_api_Label)) × (List (T_api_Label))) : Prop := Br ((a.1.length : Int) != (a.2.length : Int)) ((false = (sameLbls a))∧True) (∃ (I5 : Int→Prop) (μ6 : Int→Nat),(∃ x4 : Int,(a.1.length = a.1.length)∧(∀ i,i < a.1.length→DEqs ((gl e_api_Label a.1) i) ((gl e_api_Label a.1) i))∧(a.2.length = a.2.length)∧(∀ i,i < a.2.length→DEqs ((gl e_api_Label a.2) i) ((gl e_api_Label a.2) i))∧((a.1.length : Int) = (a.1.length : Int))∧((0 : Int) = x4)∧I5 x4)∧∀ y7 : Int,I5 y7→(Br (decide (y7 < (a.1.length : Int))) (Br (decide ((0 : Int)≤y7) && decide (y7 < (a.1.length : Int))) (Br (decide ((0 : Int)≤y7) && decide (y7 < (a.2.length : Int))) (Br (!((((at_ a.1 y7).1).toList == ((at_ a.2 y7).1).toList) && (((at_ a.1 y7).2).toList == ((at_ a.2 y7).2).toList))) ((false = (sameLbls a))∧True) (Let (IntKind.i64.wrap (y7 + (1 : Int))) (fun v15 : Int => ∃ x16 : Int,(a.1.length = a.1.length)∧(∀ i,i < a.1.length→DEqs ((gl e_api_Label a.1) i) ((gl e_api_Label a.1) i))∧(a.2.length = a.2.length)∧(∀ i,i < a.2.length→DEqs ((gl e_api_Label a.2) i) ((gl e_api_Label a.2) i))∧((a.1.length : Int) = (a.1.length : Int))∧(v15 = x16)∧I5 x16∧μ6 x16 < μ6 y7))) False) False) ((true = (sameLbls a))∧True)))
def f322.vc (a : (List (T_api_Label)) × (List (T_api_Label))) : Prop := ((¬ (a.1.length : Int) = (a.2.length : Int)→(false = sameLbls a))∧(¬ (¬ (a.1.length : Int) = (a.2.length : Int))→(∃ (I5 : Int→Prop) (μ6 : Int→Nat),I5 (0 : Int)∧∀ y7 : Int,I5 y7→((y7 < (a.1.length : Int)→((0 : Int)≤y7∧y7 < (a.1.length : Int)∧((0 : Int)≤y7∧y7 < (a.2.length : Int)∧((¬ (((at_ a.1 y7).1) = ((at_ a.2 y7).1)∧((at_ a.1 y7).2) = ((at_ a.2 y7).2))→(false = sameLbls a))∧(¬ (¬ (((at_ a.1 y7).1) = ((at_ a.2 y7).1)∧((at_ a.1 y7).2) = ((at_ a.2 y7).2)))→(-9223372036854775808≤(y7 + (1 : Int))∧(y7 + (1 : Int))≤9223372036854775807∧(I5 (y7 + (1 : Int))∧μ6 (y7 + (1 : Int)) < μ6 y7)))))))∧(¬ (y7 < (a.1.length : Int))→(true = sameLbls a))))))
set_option maxRecDepth 100000 in
set_option maxHeartbeats 2000000 in
theorem f322.of (a : (List (T_api_Label)) × (List (T_api_Label))) (h : f322.vc a) : f322.tree a := br h Cnd.ne (fun h1 k31 => ⟨k31,trivial⟩) (fun h2 k32 => Exists.elim k32 (fun I5 h28_ => Exists.elim h28_ (fun μ6 h28 => ⟨I5,μ6,⟨(0 : Int),slK (Rds.self (enc := e_api_Label)) (slK (Rds.self (enc := e_api_Label)) (⟨rfl,⟨rfl,h28.1⟩⟩))⟩,fun y7 h30 => br (h28.2 y7 h30) Cnd.dec (fun h8 k26 => chk k26.2.2 Cnd.ix ⟨k26.1,k26.2.1⟩ (fun h10 k24 => chk k24.2.2 Cnd.ix ⟨k24.1,k24.2.1⟩ (fun h11 k23 => br k23 (Cnd.not (Cnd.and Cnd.seq Cnd.seq)) (fun h12 k21 => ⟨k21,trivial⟩) (fun h13 k22 => wrapK.i64 k22 (fun h18 h19 k20 => ⟨(y7 + (1 : Int)),slK (Rds.self (enc := e_api_Label)) (slK (Rds.self (enc := e_api_Label)) (⟨rfl,⟨rfl,k20⟩⟩))⟩))))) (fun h9 k27 => ⟨k27,trivial⟩)⟩)))
theorem f322.eq (a : (List (T_api_Label)) × (List (T_api_Label))) : (f322.af a).gives f322.env (f322.args a) (f322.blks a) (f322.res a) (f322.blks' a) = f322.tree a := by kernel_rfl
end Go.Abs

-- interregnum/interregnumref05.SameNode
namespace Go.Abs
open Go
def f287.args (a : T_api_Node × T_api_Node) : List D := [.agg [.str a.1.1,.int .i64 a.1.2.1.1,.int .i64 a.1.2.1.2.1,.int .i64 a.1.2.1.2.2,.slice .ro 2 a.1.2.2.length (gl e_api_Label a.1.2.2)],.agg [.str a.2.1,.int .i64 a.2.2.1.1,.int .i64 a.2.2.1.2.1,.int .i64 a.2.2.1.2.2,.slice .ro 2 a.2.2.2.length (gl e_api_Label a.2.2.2)]]
def f287.blks (a : T_api_Node × T_api_Node) : List (List D) := []
def f287.res (a : T_api_Node × T_api_Node) : List D := [.bool (sameNode a)]
def f287.blks' (a : T_api_Node × T_api_Node) : List (List D) := []
def f287.C : Contract := FnC f287.args f287.blks (fun a => sameNode_pre a) f287.res f287.blks'
end Go.Abs

/- interregnum/interregnumref05.SameNode -/
namespace Go.Abs
open Go
set_option linter.unusedVariables false
def f287.kills (a : T_api_Node × T_api_Node) : List Hint := []
def f287.cuts (a : T_api_Node × T_api_Node) : List (Nat × Σ β : Type,β→Tm) := []
def f287.af (a : T_api_Node × T_api_Node) : AF := AF.mk (.seq (.region [⟨(some 2),0,.box,[.t 0],none⟩,
 ⟨(some 3),1,.box,[.t 1],none⟩,
 ⟨(some 4),2,.move,[.c (.bool false)],none⟩])
 (.seq (.region [⟨(some 5),3,(.fieldAddr 0),[.t 2],none⟩,
 ⟨(some 6),4,(.load false 1),[.t 5],none⟩,
 ⟨(some 7),5,(.fieldAddr 0),[.t 3],none⟩,
 ⟨(some 8),6,(.load false 1),[.t 7],none⟩,
 ⟨(some 9),7,(.bin .eql),[.t 6,.t 8],none⟩,
 ⟨(some 10),8,.move,[.t 9],none⟩,
 ⟨(some 11),9,(.fieldAddr 1),[.t 2],(some (10,true))⟩,
 ⟨(some 12),10,(.load true 3),[.t 11],(some (10,true))⟩,
 ⟨(some 13),11,(.fieldAddr 1),[.t 3],(some (10,true))⟩,
 ⟨(some 14),12,(.load true 3),[.t 13],(some (10,true))⟩,
 ⟨(some 15),13,(.eqAgg false [0,0,0]),[.t 12,.t 14],(some (10,true))⟩,
 ⟨(some 16),14,.pick,[.t 10,.t 15,.c (.bool false)],none⟩,
 ⟨(some 17),15,.move,[.t 16],none⟩,
 ⟨(some 18),16,(.fieldAddr 4),[.t 2],(some (17,true))⟩,
 ⟨(some 19),17,(.load false 1),[.t 18],(some (17,true))⟩,
 ⟨(some 20),18,(.fieldAddr 4),[.t 3],(some (17,true))⟩,
 ⟨(some 21),19,(.load false 1),[.t 20],(some (17,true))⟩,
 ⟨(some 22),20,(.call false 322),[.t 19,.t 21],(some (17,true))⟩,
 ⟨(some 23),24,.pick,[.t 17,.t 22,.c (.bool false)],none⟩,
 ⟨(some 4),25,.move,[.t 23],none⟩])
 (.ret)))
 [.tmp 4] 0 22
def f287.env : Env := [(322,f322.C)]
def f287.tree (a : T_api_Node × T_api_Node) : Prop := Br (a.1.1.toList == a.2.1.toList) (Br ((a.1.2.1.1 == a.2.2.1.1) && ((a.1.2.1.2.1 == a.2.2.1.2.1) && (a.1.2.1.2.2 == a.2.2.1.2.2))) (∃ c5 : (List (T_api_Label)) × (List (T_api_Label)),(a.1.2.2.length = c5.1.length)∧(∀ i,i < c5.1.length→DEqs ((gl e_api_Label a.1.2.2) i) ((gl e_api_Label c5.1) i))∧(a.2.2.2.length = c5.2.length)∧(∀ i,i < c5.2.length→DEqs ((gl e_api_Label a.2.2.2) i) ((gl e_api_Label c5.2) i))∧(LLL20 c5)∧((sameLbls c5) = (sameNode a))∧True) ((false = (sameNode a))∧True)) ((false = (sameNode a))∧True)
def f287.vc (a : T_api_Node × T_api_Node) : Prop := ((a.1.1 = a.2.1→((a.1.2.1.1 = a.2.2.1.1∧a.1.2.1.2.1 = a.2.2.1.2.1∧a.1.2.1.2.2 = a.2.2.1.2.2→(LLL20 (a.1.2.2,a.2.2.2)∧((sameLbls (a.1.2.2,a.2.2.2)) = sameNode a)))∧(¬ (a.1.2.1.1 = a.2.2.1.1∧a.1.2.1.2.1 = a.2.2.1.2.1∧a.1.2.1.2.2 = a.2.2.1.2.2)→(false = sameNode a))))∧(¬ (a.1.1 = a.2.1)→(false = sameNode a)))
set_option maxRecDepth 100000 in
set_option maxHeartbeats 2000000 in
theorem f287.of (a : T_api_Node × T_api_Node) (h : f287.vc a) : f287.tree a := br h Cnd.seq (fun h1 k12 => br k12 (Cnd.and Cnd.eq (Cnd.and Cnd.eq Cnd.eq)) (fun h3 k9 => ⟨(a.1.2.2,a.2.2.2),slK (Rds.self (enc := e_api_Label)) (slK (Rds.self (enc := e_api_Label)) (⟨k9.1,⟨k9.2,trivial⟩⟩))⟩) (fun h4 k10 => ⟨k10,trivial⟩)) (fun h2 k13 => ⟨k13,trivial⟩)
theorem f287.eq (a : T_api_Node × T_api_Node) : (f287.af a).gives f287.env (f287.args a) (f287.blks a) (f287.res a) (f287.blks' a) = f287.tree a := by kernel_rfl
end Go.Abs

-- interregnum/interregnumref05.SameTask
namespace Go.Abs
open Go
def f290.args (a : T_api_Task × T_api_Task) : List D := [.agg [.str a.1.1,.str a.1.2.1,.int .i64 a.1.2.2.1,.int .i64 a.1.2.2.2.1.1,.int .i64 a.1.2.2.2.1.2.1,.int .i64 a.1.2.2.2.1.2.2,.slice .ro 2 a.1.2.2.2.2.1.length (gl e_api_Label a.1.2.2.2.2.1),.str a.1.2.2.2.2.2.1,.str a.1.2.2.2.2.2.2.1,.int .i64 a.1.2.2.2.2.2.2.2],.agg [.str a.2.1,.str a.2.2.1,.int .i64 a.2.2.2.1,.int .i64 a.2.2.2.2.1.1,.int .i64 a.2.2.2.2.1.2.1,.int .i64 a.2.2.2.2.1.2.2,.slice .ro 2 a.2.2.2.2.2.1.length (gl e_api_Label a.2.2.2.2.2.1),.str a.2.2.2.2.2.2.1,.str a.2.2.2.2.2.2.2.1,.int .i64 a.2.2.2.2.2.2.2.2]]
def f290.blks (a : T_api_Task × T_api_Task) : List (List D) := []
def f290.res (a : T_api_Task × T_api_Task) : List D := [.bool (sameTask a)]
def f290.blks' (a : T_api_Task × T_api_Task) : List (List D) := []
def f290.C : Contract := FnC f290.args f290.blks (fun a => sameTask_pre a) f290.res f290.blks'
end Go.Abs

/- interregnum/interregnumref05.SameTask -/
namespace Go.Abs
open Go
set_option linter.unusedVariables false
def f290.kills (a : T_api_Task × T_api_Task) : List Hint := []
def f290.cuts (a : T_api_Task × T_api_Task) : List (Nat × Σ β : Type,β→Tm) := []
def f290.af (a : T_api_Task × T_api_Task) : AF := AF.mk (.seq (.region [⟨(some 2),0,.box,[.t 0],none⟩,
 ⟨(some 3),1,.box,[.t 1],none⟩,
 ⟨(some 4),2,.move,[.c (.bool false)],none⟩])
 (.seq (.region [⟨(some 5),3,(.fieldAddr 0),[.t 2],none⟩,
 ⟨(some 6),4,(.load false 1),[.t 5],none⟩,
 ⟨(some 7),5,(.fieldAddr 0),[.t 3],none⟩,
 ⟨(some 8),6,(.load false 1),[.t 7],none⟩,
 ⟨(some 9),7,(.bin .eql),[.t 6,.t 8],none⟩,
 ⟨(some 10),8,.move,[.t 9],none⟩,
 ⟨(some 11),9,(.fieldAddr 1),[.t 2],(some (10,true))⟩,
 ⟨(some 12),10,(.load false 1),[.t 11],(some (10,true))⟩,
 ⟨(some 13),11,(.fieldAddr 1),[.t 3],(some (10,true))⟩,
 ⟨(some 14),12,(.load false 1),[.t 13],(some (10,true))⟩,
 ⟨(some 15),13,(.bin .eql),[.t 12,.t 14],(some (10,true))⟩,
 ⟨(some 16),14,.pick,[.t 10,.t 15,.c (.bool false)],none⟩,
 ⟨(some 17),15,.move,[.t 16],none⟩,
 ⟨(some 18),16,(.fieldAddr 2),[.t 2],(some (17,true))⟩,
 ⟨(some 19),17,(.load false 1),[.t 18],(some (17,true))⟩,
 ⟨(some 20),18,(.fieldAddr 2),[.t 3],(some (17,true))⟩,
 ⟨(some 21),19,(.load false 1),[.t 20],(some (17,true))⟩,
 ⟨(some 22),20,(.bin .eql),[.t 19,.t 21],(some (17,true))⟩,
 ⟨(some 23),21,.pick,[.t 17,.t 22,.c (.bool false)],none⟩,
 ⟨(some 24),22,.move,[.t 23],none⟩,
 ⟨(some 25),23,(.fieldAddr 3),[.t 2],(some (24,true))⟩,
 ⟨(some 26),24,(.load true 3),[.t 25],(some (24,true))⟩,
 ⟨(some 27),25,(.fieldAddr 3),[.t 3],(some (24,true))⟩,
 ⟨(some 28),26,(.load true 3),[.t 27],(some (24,true))⟩,
 ⟨(some 29),27,(.eqAgg false [0,0,0]),[.t 26,.t 28],(some (24,true))⟩,
 ⟨(some 30),28,.pick,[.t 24,.t 29,.c (.bool false)],none⟩,
 ⟨(some 31),29,.move,[.t 30],none⟩,
 ⟨(some 32),30,(.fieldAddr 6),[.t 2],(some (31,true))⟩,
 ⟨(some 33),31,(.load false 1),[.t 32],(some (31,true))⟩,
 ⟨(some 34),32,(.fieldAddr 6),[.t 3],(some (31,true))⟩,
 ⟨(some 35),33,(.load false 1),[.t 34],(some (31,true))⟩,
 ⟨(some 36),34,(.call false 322),[.t 33,.t 35],(some (31,true))⟩,
 ⟨(some 37),38,.pick,[.t 31,.t 36,.c (.bool false)],none⟩,
 ⟨(some 38),39,.move,[.t 37],none⟩,
 ⟨(some 39),40,(.fieldAddr 7),[.t 2],(some (38,true))⟩,
 ⟨(some 40),41,(.load false 1),[.t 39],(some (38,true))⟩,
 ⟨(some 41),42,(.fieldAddr 7),[.t 3],(some (38,true))⟩,
 ⟨(some 42),43,(.load false 1),[.t 41],(some (38,true))⟩,
 ⟨(some 43),44,(.bin .eql),[.t 40,.t 42],(some (38,true))⟩,
 ⟨(some 44),45,.pick,[.t 38,.t 43,.c (.bool false)],none⟩,
 ⟨(some 45),46,.move,[.t 44],none⟩,
 ⟨(some 46),47,(.fieldAddr 8),[.t 2],(some (45,true))⟩,
 ⟨(some 47),48,(.load false 1),[.t 46],(some (45,true))⟩,
 ⟨(some 48),49,(.fieldAddr 8),[.t 3],(some (45,true))⟩,
 ⟨(some 49),50,(.load false 1),[.t 48],(some (45,true))⟩,
 ⟨(some 50),51,(.bin .eql),[.t 47,.t 49],(some (45,true))⟩,
 ⟨(some 51),52,.pick,[.t 45,.t 50,.c (.bool false)],none⟩,
 ⟨(some 52),53,.move,[.t 51],none⟩,
 ⟨(some 53),54,(.fieldAddr 9),[.t 2],(some (52,true))⟩,
 ⟨(some 54),55,(.load false 1),[.t 53],(some (52,true))⟩,
 ⟨(some 55),56,(.fieldAddr 9),[.t 3],(some (52,true))⟩,
 ⟨(some 56),57,(.load false 1),[.t 55],(some (52,true))⟩,
 ⟨(some 57),58,(.bin .eql),[.t 54,.t 56],(some (52,true))⟩,
 ⟨(some 58),59,.pick,[.t 52,.t 57,.c (.bool false)],none⟩,
 ⟨(some 4),60,.move,[.t 58],none⟩])
 (.ret)))
 [.tmp 4] 0 57
def f290.env : Env := [(322,f322.C)]
def f290.tree (a : T_api_Task × T_api_Task) : Prop := Br (a.1.1.toList == a.2.1.toList) (Br (a.1.2.1.toList == a.2.2.1.toList) (Br (a.1.2.2.1 == a.2.2.2.1) (Br ((a.1.2.2.2.1.1 == a.2.2.2.2.1.1) && ((a.1.2.2.2.1.2.1 == a.2.2.2.2.1.2.1) && (a.1.2.2.2.1.2.2 == a.2.2.2.2.1.2.2))) (∃ c9 : (List (T_api_Label)) × (List (T_api_Label)),(a.1.2.2.2.2.1.length = c9.1.length)∧(∀ i,i < c9.1.length→DEqs ((gl e_api_Label a.1.2.2.2.2.1) i) ((gl e_api_Label c9.1) i))∧(a.2.2.2.2.2.1.length = c9.2.length)∧(∀ i,i < c9.2.length→DEqs ((gl e_api_Label a.2.2.2.2.2.1) i) ((gl e_api_Label c9.2) i))∧(LLL20 c9)∧Br (sameLbls c9) (Br (a.1.2.2.2.2.2.1.toList == a.2.2.2.2.2.2.1.toList) (Br (a.1.2.2.2.2.2.2.1.toList == a.2.2.2.2.2.2.2.1.toList) (((a.1.2.2.2.2.2.2.2 == a.2.2.2.2.2.2.2.2) = (sameTask a))∧True) ((false = (sameTask a))∧True)) ((false = (sameTask a))∧True)) ((false = (sameTask a))∧True)) ((false = (sameTask a))∧True)) ((false = (sameTask a))∧True)) ((false = (sameTask a))∧True)) ((false = (sameTask a))∧True)
def f290.vc (a : T_api_Task × T_api_Task) : Prop := ((a.1.1 = a.2.1→((a.1.2.1 = a.2.2.1→((a.1.2.2.1 = a.2.2.2.1→((a.1.2.2.2.1.1 = a.2.2.2.2.1.1∧a.1.2.2.2.1.2.1 = a.2.2.2.2.1.2.1∧a.1.2.2.2.1.2.2 = a.2.2.2.2.1.2.2→(LLL20 (a.1.2.2.2.2.1,a.2.2.2.2.2.1)∧(((sameLbls (a.1.2.2.2.2.1,a.2.2.2.2.2.1)) = true→((a.1.2.2.2.2.2.1 = a.2.2.2.2.2.2.1→((a.1.2.2.2.2.2.2.1 = a.2.2.2.2.2.2.2.1→((a.1.2.2.2.2.2.2.2 == a.2.2.2.2.2.2.2.2) = sameTask a))∧(¬ (a.1.2.2.2.2.2.2.1 = a.2.2.2.2.2.2.2.1)→(false = sameTask a))))∧(¬ (a.1.2.2.2.2.2.1 = a.2.2.2.2.2.2.1)→(false = sameTask a))))∧(¬ ((sameLbls (a.1.2.2.2.2.1,a.2.2.2.2.2.1)) = true)→(false = sameTask a)))))∧(¬ (a.1.2.2.2.1.1 = a.2.2.2.2.1.1∧a.1.2.2.2.1.2.1 = a.2.2.2.2.1.2.1∧a.1.2.2.2.1.2.2 = a.2.2.2.2.1.2.2)→(false = sameTask a))))∧(¬ (a.1.2.2.1 = a.2.2.2.1)→(false = sameTask a))))∧(¬ (a.1.2.1 = a.2.2.1)→(false = sameTask a))))∧(¬ (a.1.1 = a.2.1)→(false = sameTask a)))
set_option maxRecDepth 100000 in
set_option maxHeartbeats 2000000 in
theorem f290.of (a : T_api_Task × T_api_Task) (h : f290.vc a) : f290.tree a := br h Cnd.seq (fun h1 k37 => br k37 Cnd.seq (fun h3 k34 => br k34 Cnd.eq (fun h5 k31 => br k31 (Cnd.and Cnd.eq (Cnd.and Cnd.eq Cnd.eq)) (fun h7 k28 => ⟨(a.1.2.2.2.2.1,a.2.2.2.2.2.1),slK (Rds.self (enc := e_api_Label)) (slK (Rds.self (enc := e_api_Label)) (⟨k28.1,br k28.2 Cnd.b (fun h10 k24 => br k24 Cnd.seq (fun h12 k21 => br k21 Cnd.seq (fun h14 k18 => ⟨k18,trivial⟩) (fun h15 k19 => ⟨k19,trivial⟩)) (fun h13 k22 => ⟨k22,trivial⟩)) (fun h11 k25 => ⟨k25,trivial⟩)⟩))⟩) (fun h8 k29 => ⟨k29,trivial⟩)) (fun h6 k32 => ⟨k32,trivial⟩)) (fun h4 k35 => ⟨k35,trivial⟩)) (fun h2 k38 => ⟨k38,trivial⟩)
theorem f290.eq (a : T_api_Task × T_api_Task) : (f290.af a).gives f290.env (f290.args a) (f290.blks a) (f290.res a) (f290.blks' a) = f290.tree a := by kernel_rfl
end Go.Abs

/- Readers: what the code asks of them. -/
namespace Go.Abs
open Go

theorem rdNum_b (a : TRd × Int × Int) : (rdNum a).2.1 = a.1.1 := by
  unfold rdNum
  split
  · rfl
  split
  · rfl
  split
  · rfl
  · rfl
theorem rdText_b (r : TRd) : (rdText r).2.1 = r.1 := by unfold rdText; split <;> rfl
theorem rfText_b (a : TRd × Int) : (rfText a).2.1 = a.1.1 := by unfold rfText; split <;> rfl
theorem rdAmt_b (r : TRd) : (rdAmt r).2.1 = r.1 := by
  unfold rdAmt rdN20
  simp only [rdNum_b]
theorem lblLoop_b {txt : TRd → ByteArray × TRd} (h : ∀ r,(txt r).2.1 = r.1) : ∀ (n : Nat) (out : List TLbl) (r : TRd),(lblLoop txt n out r).2.1 = r.1
  | 0,_,_ => rfl
  | n + 1,out,r => by rw [lblLoop,lblLoop_b h n,h,h]
theorem lblsP_b {txt : TRd → ByteArray × TRd} (h : ∀ r,(txt r).2.1 = r.1) (r : TRd) : (lblsP txt r).2.1 = r.1 := by
  unfold lblsP; rw [lblLoop_b h,rdNum_b]
theorem rfT_b (r : TRd) : (rfT r).2.1 = r.1 := rfText_b (r,16)

theorem pre_num {r : TRd} (h : rd_pre r) : rdNum_pre (r,1048576,3) := ⟨h,⟨show (0 : Int) ≤ 1048576 by decide,show (1048576 : Int) ≤ 1048576 by decide⟩,show (3 : Int) ≠ 0 by decide⟩
theorem pre_num4 {r : TRd} (h : rd_pre r) : rdNum_pre (r,4,4) := ⟨h,⟨show (0 : Int) ≤ 4 by decide,show (4 : Int) ≤ 1048576 by decide⟩,show (4 : Int) ≠ 0 by decide⟩
theorem pre_rf {r : TRd} (h : rd_pre r) : rfText_pre (r,16) := ⟨h,show (16 : Int) ≤ 9223372036854775807 by decide⟩
theorem pre_of {r s : TRd} (h : rd_pre r) (e : s.1 = r.1) : rd_pre s := by unfold rd_pre; rw [e]; exact h

theorem takeText_size (a : ByteArray × Int × Int) (h : 0 ≤ a.2.2) : ((takeText a).1.size : Int) ≤ a.2.2 := by
  unfold takeText
  split
  · exact h
  split
  · exact h
  split
  · exact h
  split
  · exact h
  · rename_i h1 h2 h3 h4
    have hb := takeN_bd (a.1,a.2.1)
    simp only at hb ⊢
    rw [RdB.size_sub ⟨hb.2.2.1,by omega,by omega⟩]
    omega

theorem rdText_size (r : TRd) : (rdText r).1.size ≤ 16 := by
  unfold rdText
  split
  · exact Nat.zero_le _
  · have := takeText_size (r.1,r.2.1,16) (show (0 : Int) ≤ 16 by decide)
    simp only at this ⊢
    omega
theorem rfT_size (r : TRd) : (rfT r).1.size ≤ 16 := by
  unfold rfT rfText
  split
  · exact Nat.zero_le _
  · have := takeText_size (r.1,r.2.1,16) (show (0 : Int) ≤ 16 by decide)
    simp only at this ⊢
    omega
theorem lblLoop_size {txt : TRd → ByteArray × TRd} (h : ∀ r,(txt r).1.size ≤ 16) : ∀ (n : Nat) (out : List TLbl) (r : TRd),(∀ x ∈ out,x.1.size ≤ 16 ∧ x.2.size ≤ 16) → ∀ x ∈ (lblLoop txt n out r).1,x.1.size ≤ 16 ∧ x.2.size ≤ 16
  | 0,_,_,ho => ho
  | n + 1,out,r,ho => by
    rw [lblLoop]
    refine lblLoop_size h n _ _ fun x hx => ?_
    rcases List.mem_append.1 hx with hx | hx
    · exact ho x hx
    · rw [List.mem_singleton.1 hx]; exact ⟨h _,h _⟩
theorem name16 {s : ByteArray} (h : s.size ≤ 16) : name_pre s := Nat.le_trans h (by decide)
theorem lbls16 {txt : TRd → ByteArray × TRd} (h : ∀ r,(txt r).1.size ≤ 16) (r : TRd) : lbls_pre (lblsP txt r).1 := fun x hx => by
  have := lblLoop_size h _ [] _ (fun x hx => absurd hx List.not_mem_nil) x hx
  omega

theorem f321.ok (a : TRd × Int × Int) (h : rdNum_pre a) : f321.vc a := by
  have hb := takeN_bd (a.1.1,a.1.2.1)
  obtain ⟨h1,h2,h3⟩ := h
  refine ⟨fun c => by unfold rdNum; rw [if_pos c],fun c => ⟨h1,fun d => by unfold rdNum; rw [if_neg c,if_pos d],fun d => ⟨fun e => by unfold rdNum; rw [if_neg c,if_neg d,if_pos e],fun e => ⟨by omega,by omega,?_⟩⟩⟩⟩
  unfold rdNum
  rw [if_neg c,if_neg d,if_neg e,Classical.not_not.1 c]

theorem f327.ok (a : TRd × Int × Int) (h : rdNum_pre a) : f327.vc a := by
  have hb := takeN_bd (a.1.1,a.1.2.1)
  obtain ⟨h1,h2,h3⟩ := h
  refine ⟨fun c => by unfold rdNum; rw [if_pos c],fun c => ⟨h1,fun d => ⟨h2.1,by omega,fun e => ⟨fun _ => by unfold rdNum; rw [if_neg c,if_neg (not_not_intro d),if_pos e],fun f => absurd h3 f⟩,fun e => ⟨by omega,by omega,?_⟩⟩,fun d => by unfold rdNum; rw [if_neg c,if_pos d]⟩⟩
  unfold rdNum
  rw [if_neg c,if_neg (not_not_intro d),if_neg e,d]

theorem f317.ok (a : TRd) (h : rd_pre a) : f317.vc a :=
  ⟨fun c => by unfold rdText; rw [if_pos c],fun c => ⟨⟨h,show (16 : Int) ≤ _ by decide⟩,by unfold rdText; rw [if_neg c]⟩⟩

theorem f323.ok (a : TRd × Int) (h : rfText_pre a) : f323.vc a :=
  ⟨fun c => by unfold rfText; rw [if_pos c],fun c => ⟨⟨h.1,h.2⟩,fun d => by unfold rfText; rw [if_neg c,if_pos d],fun d => by unfold rfText; rw [if_neg c,if_neg d]⟩⟩

theorem f318.ok (a : TRd) (h : rd_pre a) : f318.vc a := ⟨pre_num h,pre_num (pre_of h (rdNum_b _)),pre_num (pre_of h ((rdNum_b _).trans (rdNum_b _))),rfl⟩
theorem f324.ok (a : TRd) (h : rd_pre a) : f324.vc a := ⟨pre_num h,pre_num (pre_of h (rdNum_b _)),pre_num (pre_of h ((rdNum_b _).trans (rdNum_b _))),rfl⟩

theorem rdNum_le {a : TRd × Int × Int} (h : 0 ≤ a.2.1) : 0 ≤ (rdNum a).1 ∧ (rdNum a).1 ≤ a.2.1 := by
  have hb := takeN_bd (a.1.1,a.1.2.1)
  unfold rdNum
  split
  · exact ⟨Int.le_refl _,h⟩
  split
  · exact ⟨Int.le_refl _,h⟩
  split
  · exact ⟨Int.le_refl _,h⟩
  · rename_i h3; exact ⟨hb.1,by omega⟩

theorem lblLoop_inv {txt : TRd → ByteArray × TRd} (n : Nat) (out : List TLbl) (r : TRd) (k : Int) (i : Int) (hi : i < k) (h0 : 0 ≤ i) (hn : n = (k - i).toNat) : lblLoop txt n out r = lblLoop txt (k - (i + 1)).toNat (out ++ [((txt r).1,(txt (txt r).2).1)]) (txt (txt r).2).2 := by
  have : n = (k - (i + 1)).toNat + 1 := by omega
  rw [this,lblLoop]

theorem f319.ok (a : TRd) (h : rd_pre a) : f319.vc a := by
  have hb := rdNum_le (a := (a,(4 : Int),(4 : Int))) (show (0 : Int) ≤ 4 by decide)
  refine ⟨pre_num4 h,fun y => rd_pre y.2.2.2 ∧ 0 ≤ y.2.2.1 ∧ y.2.1 ≤ 4 ∧ (y.1.length : Int) = y.2.2.1 ∧ lblLoop rdText (y.2.1 - y.2.2.1).toNat y.1 y.2.2.2 = rdLbls a,fun y => (y.2.1 - y.2.2.1).toNat,⟨pre_of h (rdNum_b _),Int.le_refl _,hb.2,rfl,?_⟩,fun y hy => ?_⟩
  · simp only [Int.sub_zero]; rfl
  · obtain ⟨h1,h2,h3,h4,h5⟩ := hy
    obtain ⟨out,k,i,r⟩ := y
    simp only at h1 h2 h3 h4 h5 ⊢
    refine ⟨fun c => ⟨h1,pre_of h1 (rdText_b _),by omega,by omega,by omega,⟨pre_of h1 ((rdText_b _).trans (rdText_b _)),by omega,h3,?_,?_⟩,by omega⟩,fun c => ?_⟩
    · simp only [List.length_append,List.length_cons,List.length_nil]; omega
    · rw [← h5]; exact (lblLoop_inv _ out r k i c h2 rfl).symm
    · rw [← h5]
      have : (k - i).toNat = 0 := by omega
      rw [this]; rfl

theorem f325.ok (a : TRd) (h : rd_pre a) : f325.vc a := by
  have hb := rdNum_le (a := (a,(4 : Int),(4 : Int))) (show (0 : Int) ≤ 4 by decide)
  refine ⟨pre_num4 h,fun y => rd_pre y.2.2.2 ∧ 0 ≤ y.2.2.1 ∧ y.2.1 ≤ 4 ∧ (y.1.length : Int) = y.2.2.1 ∧ lblLoop rfT (y.2.1 - y.2.2.1).toNat y.1 y.2.2.2 = rfLbls a,fun y => (y.2.1 - y.2.2.1).toNat,⟨pre_of h (rdNum_b _),Int.le_refl _,hb.2,rfl,?_⟩,fun y hy => ?_⟩
  · simp only [Int.sub_zero]; rfl
  · obtain ⟨h1,h2,h3,h4,h5⟩ := hy
    obtain ⟨out,k,i,r⟩ := y
    simp only at h1 h2 h3 h4 h5 ⊢
    refine ⟨fun c => ⟨pre_rf h1,pre_rf (pre_of h1 (rfText_b _)),by omega,by omega,by omega,⟨pre_of h1 ((rfText_b _).trans (rfText_b _)),by omega,h3,?_,?_⟩,by omega⟩,fun c => ?_⟩
    · simp only [List.length_append,List.length_cons,List.length_nil]; omega
    · rw [← h5]; exact (lblLoop_inv _ out r k i c h2 rfl).symm
    · rw [← h5]
      have : (k - i).toNat = 0 := by omega
      rw [this]; rfl

theorem f320.ok (a : TRd × Bool) (_ : True) : f320.vc a :=
  ⟨fun c => by unfold rdEnd; rw [if_pos c],fun c => ⟨fun d => by unfold rdEnd; rw [if_neg c,if_pos d],fun d => by unfold rdEnd; rw [if_neg c,if_neg d]⟩⟩

theorem f326.ok (a : TRd × Bool) (_ : True) : f326.vc a := by
  refine ⟨fun c => ⟨fun d => by unfold rfDone; rw [if_pos ⟨c,d⟩],fun d => ?_⟩,fun c => ?_⟩
  · unfold rfDone; rw [if_neg (fun hh => d hh.2),c]; rfl
  · unfold rfDone; rw [if_neg (fun hh => c hh.1)]
    have : (a.1.2.2 == (0 : Int)) = decide (a.1.2.2 = 0) := by rw [Bool.eq_iff_iff]; simp
    rw [this]

theorem endP_no {α : Type} {z : α} {p : α × TRd} {ok : Bool} (h : ¬ (rdEnd (p.2,ok)).2.1 = 0) : (z,(0 : Int),(rdEnd (p.2,ok)).2.1) = endP z p ok := by unfold endP; rw [if_pos h]
theorem endP_yes {α : Type} {z : α} {p : α × TRd} {ok : Bool} (h : ¬ ¬ (rdEnd (p.2,ok)).2.1 = 0) : (p.1,(rdEnd (p.2,ok)).1,(0 : Int)) = endP z p ok := by unfold endP; rw [if_neg h]
theorem doneP_no {α : Type} {z : α} {p : α × TRd} {ok : Bool} (h : ¬ (rfDone (p.2,ok)).1 = true) : (z,(rfDone (p.2,ok)).2) = doneP z p ok := by unfold doneP; rw [if_pos h]
theorem doneP_yes {α : Type} {z : α} {p : α × TRd} {ok : Bool} (h : ¬ ¬ (rfDone (p.2,ok)).1 = true) : (p.1,(rfDone (p.2,ok)).2) = doneP z p ok := by unfold doneP; rw [if_neg h]

theorem f284.ok (a : ByteArray × Int) (h : takes_pre a) : f284.vc a := by
  have p0 : rd_pre (a.1,a.2,(0 : Int)) := h
  have p1 := pre_of p0 (rdText_b (a.1,a.2,(0 : Int)))
  have p2 := pre_of p1 (rdAmt_b _)
  exact ⟨p0,p1,p2,⟨name16 (rdText_size _),lbls16 rdText_size _⟩,fun c => endP_no (z := zNode) (p := nodeP rdText (a.1,a.2,0)) c,fun c => endP_yes (z := zNode) (p := nodeP rdText (a.1,a.2,0)) c⟩

theorem f285.ok (a : ByteArray × Int) (h : takes_pre a) : f285.vc a := by
  have p0 : rd_pre (a.1,a.2,(0 : Int)) := h
  have p1 := pre_of p0 (rdText_b (a.1,a.2,(0 : Int)))
  exact ⟨p0,p1,name16 (rdText_size _),fun c => endP_no (z := zQueue) (p := queueP rdText (a.1,a.2,0)) c,fun c => endP_yes (z := zQueue) (p := queueP rdText (a.1,a.2,0)) c⟩

theorem f286.ok (a : ByteArray × Int) (h : takes_pre a) : f286.vc a := by
  have p0 : rd_pre (a.1,a.2,(0 : Int)) := h
  have p1 := pre_of p0 (rdText_b (a.1,a.2,(0 : Int)))
  have p2 := pre_of p1 (rdText_b _)
  have p3 := pre_of p2 (rdNum_b (_,1048576,3))
  have p4 := pre_of p3 (rdAmt_b _)
  have p5 := pre_of p4 (lblsP_b rdText_b _)
  have p6 := pre_of p5 (rdText_b _)
  have p7 := pre_of p6 (rdText_b _)
  exact ⟨p0,p1,pre_num p2,p3,p4,p5,p6,pre_num p7,⟨name16 (rdText_size _),name16 (rdText_size _),lbls16 rdText_size _,name16 (rdText_size _),name16 (rdText_size _)⟩,
    fun c => endP_no (z := zTask) (p := taskP rdText (a.1,a.2,0)) c,fun c => endP_yes (z := zTask) (p := taskP rdText (a.1,a.2,0)) c⟩

theorem f288.ok (a : TRd) (h : rd_pre a) : f288.vc a := by
  have p1 := pre_of h (rfT_b a)
  have p2 := pre_of p1 (rdAmt_b _)
  exact ⟨pre_rf h,p1,p2,⟨name16 (rfT_size _),lbls16 rfT_size _⟩,fun c => doneP_no (z := zNode) (p := nodeP rfT a) c,fun c => doneP_yes (z := zNode) (p := nodeP rfT a) c⟩

theorem f289.ok (a : TRd) (h : rd_pre a) : f289.vc a := by
  have p1 := pre_of h (rfT_b a)
  exact ⟨pre_rf h,p1,name16 (rfT_size _),fun c => doneP_no (z := zQueue) (p := queueP rfT a) c,fun c => doneP_yes (z := zQueue) (p := queueP rfT a) c⟩

theorem f291.ok (a : TRd) (h : rd_pre a) : f291.vc a := by
  have p1 := pre_of h (rfT_b a)
  have p2 := pre_of p1 (rfT_b _)
  have p3 := pre_of p2 (rdNum_b (_,1048576,3))
  have p4 := pre_of p3 (rdAmt_b _)
  have p5 := pre_of p4 (lblsP_b rfT_b _)
  have p6 := pre_of p5 (rfT_b _)
  have p7 := pre_of p6 (rfT_b _)
  exact ⟨pre_rf h,pre_rf p1,pre_num p2,p3,p4,pre_rf p5,pre_rf p6,pre_num p7,⟨name16 (rfT_size _),name16 (rfT_size _),lbls16 rfT_size _,name16 (rfT_size _),name16 (rfT_size _)⟩,
    fun c => doneP_no (z := zTask) (p := taskP rfT a) c,fun c => doneP_yes (z := zTask) (p := taskP rfT a) c⟩

theorem list_ext {α : Type} [Inhabited α] {l m : List α} (h : l.length = m.length) (k : ∀ i,i < l.length → l.getD i default = m.getD i default) : l = m := by
  apply List.ext_getElem h
  intro i h1 h2
  have := k i h1
  simpa [List.getD_eq_getElem?_getD,h1,h2] using this

theorem f322.ok (a : List TLbl × List TLbl) (h : LLL20 a) : f322.vc a := by
  obtain ⟨l,m⟩ := a
  have h1 : l.length ≤ 1048576 := h.1
  have sf : l ≠ m → false = sameLbls (l,m) := fun hne => by unfold sameLbls; simp [hne]
  refine ⟨fun c => sf fun e => c (by rw [e]),fun c => ?_⟩
  have hlen : l.length = m.length := by have := Classical.not_not.1 c; simp only at this; omega
  refine ⟨fun i => 0 ≤ i ∧ ∀ j : Nat,(j : Int) < i → j < l.length → l.getD j default = m.getD j default,fun i => ((l.length : Int) - i).toNat,⟨Int.le_refl _,fun j hj => by omega⟩,fun i hi => ⟨fun c => ?_,fun c => ?_⟩⟩
  · obtain ⟨h2,h3⟩ := hi
    simp only at c ⊢
    refine ⟨h2,c,h2,by omega,fun d => sf fun e => d (by rw [e]; exact ⟨rfl,rfl⟩),fun d => ⟨by omega,by omega,⟨by omega,fun j hj hl => ?_⟩,by omega⟩⟩
    rcases Int.lt_or_le (j : Int) i with h4 | h4
    · exact h3 j h4 hl
    · have d := Classical.not_not.1 d
      have e : j = i.toNat := by omega
      rw [at_getD,at_getD] at d
      rw [e]
      exact Prod.ext d.1 d.2
  · simp only at c ⊢
    have : l = m := list_ext hlen fun j hj => hi.2 j (by omega) hj
    unfold sameLbls
    simp [this]

theorem sameLbls_iff {l m : List TLbl} : sameLbls (l,m) = true ↔ l = m := by unfold sameLbls; simp
theorem res_ext {a b : TRes} : a = b ↔ a.1 = b.1 ∧ a.2.1 = b.2.1 ∧ a.2.2 = b.2.2 := ⟨fun h => by rw [h]; exact ⟨rfl,rfl,rfl⟩,fun h => Prod.ext h.1 (Prod.ext h.2.1 h.2.2)⟩

theorem sameNode_iff {a : TNode × TNode} : sameNode a = true ↔ a.1.1 = a.2.1 ∧ a.1.2.1 = a.2.2.1 ∧ a.1.2.2 = a.2.2.2 := by
  unfold sameNode
  rw [decide_eq_true_iff]
  exact ⟨fun h => by rw [h]; exact ⟨rfl,rfl,rfl⟩,fun h => Prod.ext h.1 (Prod.ext h.2.1 h.2.2)⟩
theorem not_true {b : Bool} (h : ¬ b = true) : false = b := by cases b <;> simp_all

theorem f287.ok (a : TNode × TNode) (h : sameNode_pre a) : f287.vc a := by
  refine ⟨fun c => ⟨fun d => ⟨h,?_⟩,fun d => ?_⟩,fun c => ?_⟩
  · rw [Bool.eq_iff_iff,sameLbls_iff,sameNode_iff]
    exact ⟨fun e => ⟨c,res_ext.2 d,e⟩,fun e => e.2.2⟩
  · exact not_true fun e => d (res_ext.1 (sameNode_iff.1 e).2.1)
  · exact not_true fun e => c (sameNode_iff.1 e).1

theorem sameTask_iff {a : TTask × TTask} : sameTask a = true ↔ a.1.1 = a.2.1 ∧ a.1.2.1 = a.2.2.1 ∧ a.1.2.2.1 = a.2.2.2.1 ∧ a.1.2.2.2.1 = a.2.2.2.2.1 ∧ a.1.2.2.2.2.1 = a.2.2.2.2.2.1 ∧ a.1.2.2.2.2.2.1 = a.2.2.2.2.2.2.1 ∧ a.1.2.2.2.2.2.2.1 = a.2.2.2.2.2.2.2.1 ∧ a.1.2.2.2.2.2.2.2 = a.2.2.2.2.2.2.2.2 := by
  unfold sameTask
  rw [decide_eq_true_iff]
  exact ⟨fun h => ⟨h.1.1,h.1.2.1,h.1.2.2.1,h.1.2.2.2,by rw [h.2],by rw [h.2],by rw [h.2],by rw [h.2]⟩,fun h => ⟨⟨h.1,h.2.1,h.2.2.1,h.2.2.2.1⟩,Prod.ext h.2.2.2.2.1 (Prod.ext h.2.2.2.2.2.1 (Prod.ext h.2.2.2.2.2.2.1 h.2.2.2.2.2.2.2))⟩⟩

theorem sameTask_eq {a b : TTask} : sameTask (a,b) = true ↔ a = b := by
  rw [sameTask_iff]
  exact ⟨fun h => Prod.ext h.1 (Prod.ext h.2.1 (Prod.ext h.2.2.1 (Prod.ext h.2.2.2.1 (Prod.ext h.2.2.2.2.1 (Prod.ext h.2.2.2.2.2.1 (Prod.ext h.2.2.2.2.2.2.1 h.2.2.2.2.2.2.2)))))),fun h => by rw [h]; simp⟩
theorem sameNode_eq {a b : TNode} : sameNode (a,b) = true ↔ a = b := by unfold sameNode; simp

theorem f290.ok (a : TTask × TTask) (h : sameTask_pre a) : f290.vc a := by
  refine ⟨fun c1 => ⟨fun c2 => ⟨fun c3 => ⟨fun c4 => ⟨h,fun c5 => ⟨fun c6 => ⟨fun c7 => ?_,fun d => ?_⟩,fun d => ?_⟩,fun d => ?_⟩,fun d => ?_⟩,fun d => ?_⟩,fun d => ?_⟩,fun d => ?_⟩
  · rw [Bool.eq_iff_iff,sameTask_iff,beq_iff_eq]
    exact ⟨fun e => ⟨c1,c2,c3,res_ext.2 c4,sameLbls_iff.1 c5,c6,c7,e⟩,fun e => e.2.2.2.2.2.2.2⟩
  all_goals refine not_true fun e => ?_
  all_goals have e := sameTask_iff.1 e
  · exact d e.2.2.2.2.2.2.1
  · exact d e.2.2.2.2.2.1
  · exact d (sameLbls_iff.2 e.2.2.2.2.1)
  · exact d (res_ext.1 e.2.2.2.1)
  · exact d e.2.2.1
  · exact d e.2.1
  · exact d e.1

end Go.Abs
