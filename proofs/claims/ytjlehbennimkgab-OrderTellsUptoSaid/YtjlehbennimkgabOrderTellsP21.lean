/- Functions, and what the code asks of them: POrdLaw. -/
import Derived.KernelRfl
import Derived.Test.YtjlehbennimkgabOrderTellsP4
import Derived.Test.YtjlehbennimkgabOrderTellsP5
import Derived.Test.YtjlehbennimkgabOrderTellsP6
import Derived.Test.YtjlehbennimkgabOrderTellsP7
import Derived.Test.YtjlehbennimkgabOrderTellsP8
import Derived.Test.YtjlehbennimkgabOrderTellsP9
import Derived.Test.YtjlehbennimkgabOrderTellsP10
import Derived.Test.YtjlehbennimkgabOrderTellsP11
import Derived.Test.YtjlehbennimkgabOrderTellsP12
import Derived.Test.YtjlehbennimkgabOrderTellsP14
import Derived.Test.YtjlehbennimkgabOrderTellsP15
import Derived.Test.YtjlehbennimkgabOrderTellsP17
import Derived.Test.YtjlehbennimkgabOrderTellsP18
import Derived.Test.YtjlehbennimkgabOrderTellsP19
import Derived.Test.YtjlehbennimkgabOrderTellsP20
set_option linter.unusedVariables false
set_option linter.unusedSimpArgs false
-- interregnum/interregnumlaw14.awake
namespace Go.Abs
open Go
def f91.args (a:Unit):List D:=[]
def f91.blks (a:Unit):List (List D):=[]
def f91.res (a:Unit):List D:=[.bool (cD a)]
def f91.blks' (a:Unit):List (List D):=[]
def f91.C:aU:=FnC f91.args f91.blks (fun _=>True) f91.res f91.blks'
end Go.Abs

/- interregnum/interregnumlaw14.awake -/
namespace Go.Abs
open Go
set_option linter.unusedVariables false
def f91.kills (a:Unit):List fU:=[]
def f91.cuts (a:Unit):List (Nat×Σ β:Type,β→Tm):=[]
def f91.af (a:Unit):AF:=AF.mk (.seq (.region [⟨(some 0),0,.move,[.c (.bool false)],none⟩])
 (.seq (.region [⟨(some 2),1,(.build [.str ByteArray.empty,.str ByteArray.empty,.int .i64 (0),.int .i64 (0),.int .i64 (0),.int .i64 (0),.slice .full 2 0 cO,.str ByteArray.empty,.str ByteArray.empty,.int .i64 (0),.int .i64 (0),.str ByteArray.empty,.int .i64 (0)] [(10,1)]),[.c (.int .i64 (1))],none⟩,
 ⟨(some 3),2,(.build [.str ByteArray.empty,.str ByteArray.empty,.int .i64 (0),.int .i64 (0),.int .i64 (0),.int .i64 (0),.slice .full 2 0 cO,.str ByteArray.empty,.str ByteArray.empty,.int .i64 (0)] [(2,1)]),[.c (.int .i64 (2))],none⟩,
 ⟨(some 4),3,(.build [.str ByteArray.empty,.str ByteArray.empty,.int .i64 (0),.int .i64 (0),.int .i64 (0),.int .i64 (0),.slice .full 2 0 cO,.str ByteArray.empty,.str ByteArray.empty,.int .i64 (0),.int .i64 (0),.str ByteArray.empty,.int .i64 (0)] [(0,10),(10,1)]),[.t 3,.c (.int .i64 (2))],none⟩,
 oT 5 4 (.buildSlice 13 2 [.str ByteArray.empty,.str ByteArray.empty,.int .i64 (0),.int .i64 (0),.int .i64 (0),.int .i64 (0),.slice .full 2 0 cO,.str ByteArray.empty,.str ByteArray.empty,.int .i64 (0),.int .i64 (0),.str ByteArray.empty,.int .i64 (0)] [(0,13),(13,13)]) [2,4],
 oT 6 5 (.call false 93) [5],
 oT 1 9 .move [6]])
 (.seq (.region [oT 7 10 .move [1],
 oT 8 11 (.len false) [7],
 ⟨(some 9),12,(.bin .eql),[.t 8,.c (.int .i64 (2))],none⟩,
 oT 10 13 .move [9],
 oG 11 14 .move [1] 10 true,
 ⟨(some 12),15,(.indexAddr 1 none),[.t 11,.c (.int .i64 (0))],(some (10,true))⟩,
 oG 13 16 (.load false 1) [12] 10 true,
 oG 14 17 (.len false) [13] 10 true,
 ⟨(some 15),18,(.bin .eql),[.t 14,.c (.int .i64 (1))],(some (10,true))⟩,
 ⟨(some 16),19,.pick,[.t 10,.t 15,.c (.bool false)],none⟩,
 oT 17 20 .move [16],
 oG 18 21 .move [1] 17 true,
 ⟨(some 19),22,(.indexAddr 1 none),[.t 18,.c (.int .i64 (0))],(some (17,true))⟩,
 oG 20 23 (.load false 1) [19] 17 true,
 ⟨(some 21),24,(.indexAddr 1 none),[.t 20,.c (.int .i64 (0))],(some (17,true))⟩,
 oG 22 25 (.load false 1) [21] 17 true,
 ⟨(some 23),26,(.bin .eql),[.t 22,.c (.int .i64 (1))],(some (17,true))⟩,
 ⟨(some 24),27,.pick,[.t 17,.t 23,.c (.bool false)],none⟩,
 oT 0 28 .move [24]])
 (.ret))))
 [.tmp 0] 0 25
def f91.env:Env:=[(93,f93.C)]
def f91.tree (a:Unit):Prop:=∃ c1:List (aA),SlQ 2 c1.length (fun j=>List.take 13 (List.drop (j * 13) [.str ByteArray.empty,.str ByteArray.empty,.int .i64 (0:Int),.int .i64 (0:Int),.int .i64 (0:Int),.int .i64 (0:Int),.slice .ro 2 0 cO,.str ByteArray.empty,.str ByteArray.empty,.int .i64 (0:Int),.int .i64 (1:Int),.str ByteArray.empty,.int .i64 (0:Int),.str ByteArray.empty,.str ByteArray.empty,.int .i64 (2:Int),.int .i64 (0:Int),.int .i64 (0:Int),.int .i64 (0:Int),.slice .ro 2 0 cO,.str ByteArray.empty,.str ByteArray.empty,.int .i64 (0:Int),.int .i64 (2:Int),.str ByteArray.empty,.int .i64 (0:Int)])) (gl aD c1) ((dP c1)∧Br (((bL c1).length:Int)==(2:Int)) (Br (decide ((0:Int)≤(0:Int))&&decide ((0:Int) < ((bL c1).length:Int))) (Br (((at_ (bL c1) (0:Int)).length:Int)==(1:Int)) (Br (decide ((0:Int)≤(0:Int))&&decide ((0:Int) < ((bL c1).length:Int))) (Br (decide ((0:Int)≤(0:Int))&&decide ((0:Int) < ((at_ (bL c1) (0:Int)).length:Int))) ((((at_ (at_ (bL c1) (0:Int)) (0:Int))==(1:Int))=(cD a))∧True) False) False) ((false=(cD a))∧True)) False) ((false=(cD a))∧True))
def f91.vc (a:Unit):Prop:=(dP ([((ByteArray.empty,ByteArray.empty,(0:Int),((0:Int),(0:Int),(0:Int)),[],ByteArray.empty,ByteArray.empty,(0:Int)),(1:Int),ByteArray.empty,(0:Int)),((ByteArray.empty,ByteArray.empty,(2:Int),((0:Int),(0:Int),(0:Int)),[],ByteArray.empty,ByteArray.empty,(0:Int)),(2:Int),ByteArray.empty,(0:Int))])∧((((bL ([((ByteArray.empty,ByteArray.empty,(0:Int),((0:Int),(0:Int),(0:Int)),[],ByteArray.empty,ByteArray.empty,(0:Int)),(1:Int),ByteArray.empty,(0:Int)),((ByteArray.empty,ByteArray.empty,(2:Int),((0:Int),(0:Int),(0:Int)),[],ByteArray.empty,ByteArray.empty,(0:Int)),(2:Int),ByteArray.empty,(0:Int))])).length:Int)=(2:Int)→((0:Int) < ((bL ([((ByteArray.empty,ByteArray.empty,(0:Int),((0:Int),(0:Int),(0:Int)),[],ByteArray.empty,ByteArray.empty,(0:Int)),(1:Int),ByteArray.empty,(0:Int)),((ByteArray.empty,ByteArray.empty,(2:Int),((0:Int),(0:Int),(0:Int)),[],ByteArray.empty,ByteArray.empty,(0:Int)),(2:Int),ByteArray.empty,(0:Int))])).length:Int)∧((((at_ (bL ([((ByteArray.empty,ByteArray.empty,(0:Int),((0:Int),(0:Int),(0:Int)),[],ByteArray.empty,ByteArray.empty,(0:Int)),(1:Int),ByteArray.empty,(0:Int)),((ByteArray.empty,ByteArray.empty,(2:Int),((0:Int),(0:Int),(0:Int)),[],ByteArray.empty,ByteArray.empty,(0:Int)),(2:Int),ByteArray.empty,(0:Int))])) (0:Int)).length:Int)=(1:Int)→((0:Int) < ((bL ([((ByteArray.empty,ByteArray.empty,(0:Int),((0:Int),(0:Int),(0:Int)),[],ByteArray.empty,ByteArray.empty,(0:Int)),(1:Int),ByteArray.empty,(0:Int)),((ByteArray.empty,ByteArray.empty,(2:Int),((0:Int),(0:Int),(0:Int)),[],ByteArray.empty,ByteArray.empty,(0:Int)),(2:Int),ByteArray.empty,(0:Int))])).length:Int)∧((0:Int) < ((at_ (bL ([((ByteArray.empty,ByteArray.empty,(0:Int),((0:Int),(0:Int),(0:Int)),[],ByteArray.empty,ByteArray.empty,(0:Int)),(1:Int),ByteArray.empty,(0:Int)),((ByteArray.empty,ByteArray.empty,(2:Int),((0:Int),(0:Int),(0:Int)),[],ByteArray.empty,ByteArray.empty,(0:Int)),(2:Int),ByteArray.empty,(0:Int))])) (0:Int)).length:Int)∧(((at_ (at_ (bL ([((ByteArray.empty,ByteArray.empty,(0:Int),((0:Int),(0:Int),(0:Int)),[],ByteArray.empty,ByteArray.empty,(0:Int)),(1:Int),ByteArray.empty,(0:Int)),((ByteArray.empty,ByteArray.empty,(2:Int),((0:Int),(0:Int),(0:Int)),[],ByteArray.empty,ByteArray.empty,(0:Int)),(2:Int),ByteArray.empty,(0:Int))])) (0:Int)) (0:Int))==(1:Int))=cD a))))∧(¬(((at_ (bL ([((ByteArray.empty,ByteArray.empty,(0:Int),((0:Int),(0:Int),(0:Int)),[],ByteArray.empty,ByteArray.empty,(0:Int)),(1:Int),ByteArray.empty,(0:Int)),((ByteArray.empty,ByteArray.empty,(2:Int),((0:Int),(0:Int),(0:Int)),[],ByteArray.empty,ByteArray.empty,(0:Int)),(2:Int),ByteArray.empty,(0:Int))])) (0:Int)).length:Int)=(1:Int))→(false=cD a)))))∧(¬(((bL ([((ByteArray.empty,ByteArray.empty,(0:Int),((0:Int),(0:Int),(0:Int)),[],ByteArray.empty,ByteArray.empty,(0:Int)),(1:Int),ByteArray.empty,(0:Int)),((ByteArray.empty,ByteArray.empty,(2:Int),((0:Int),(0:Int),(0:Int)),[],ByteArray.empty,ByteArray.empty,(0:Int)),(2:Int),ByteArray.empty,(0:Int))])).length:Int)=(2:Int))→(false=cD a))))
set_option maxRecDepth 100000 in
set_option maxHeartbeats 2000000 in
theorem f91.of (a:Unit) (h:f91.vc a):f91.tree a:=⟨[((ByteArray.empty,ByteArray.empty,(0:Int),((0:Int),(0:Int),(0:Int)),[],ByteArray.empty,ByteArray.empty,(0:Int)),(1:Int),ByteArray.empty,(0:Int)),((ByteArray.empty,ByteArray.empty,(2:Int),((0:Int),(0:Int),(0:Int)),[],ByteArray.empty,ByteArray.empty,(0:Int)),(2:Int),ByteArray.empty,(0:Int))],slQ (Rds.rowD (enc:=aD) rfl (fun i hi=>match i,hi with | 0,_=>(DEqs.cons (DEq.refl _) (DEqs.cons (DEq.refl _) (DEqs.cons (DEq.refl _) (DEqs.cons (DEq.refl _) (DEqs.cons (DEq.refl _) (DEqs.cons (DEq.refl _) (DEqs.cons ((Rds.nil (enc:=aN))).deq (DEqs.cons (DEq.refl _) (DEqs.cons (DEq.refl _) (DEqs.cons (DEq.refl _) (DEqs.cons (DEq.refl _) (DEqs.cons (DEq.refl _) (DEqs.cons (DEq.refl _) DEqs.nil))))))))))))) | 1,_=>(DEqs.cons (DEq.refl _) (DEqs.cons (DEq.refl _) (DEqs.cons (DEq.refl _) (DEqs.cons (DEq.refl _) (DEqs.cons (DEq.refl _) (DEqs.cons (DEq.refl _) (DEqs.cons ((Rds.nil (enc:=aN))).deq (DEqs.cons (DEq.refl _) (DEqs.cons (DEq.refl _) (DEqs.cons (DEq.refl _) (DEqs.cons (DEq.refl _) (DEqs.cons (DEq.refl _) (DEqs.cons (DEq.refl _) DEqs.nil))))))))))))) | _+2,hi=>absurd hi (Nat.not_lt.2 (Nat.le_add_left _ _)))) (⟨h.1,br h.2 Cnd.eq (fun h2 k17=>chk k17.2 Cnd.ix ⟨(by decide),k17.1⟩ (fun h4 k15=>br k15 Cnd.eq (fun h5 k13=>chk k13.2 Cnd.ix ⟨(by decide),k13.1⟩ (fun h7 k11=>chk k11.2 Cnd.ix ⟨(by decide),k11.1⟩ (fun h8 k10=>⟨k10,trivial⟩))) (fun h6 k14=>⟨k14,trivial⟩))) (fun h3 k18=>⟨k18,trivial⟩)⟩)⟩
theorem f91.eq (a:Unit):(f91.af a).gives f91.env (f91.args a) (f91.blks a) (f91.res a) (f91.blks' a)=f91.tree a:=by kernel_rfl
end Go.Abs

-- interregnum/interregnumlaw14.OrderTells
namespace Go.Abs
open Go
def f82.wf (a:(List (aA))×aA×aA):Prop:=fQ.ok a.1∧d6.ok a.2.1∧d6.ok a.2.2
def f82.size (a:(List (aA))×aA×aA):Nat:=fQ.size a.1+(d6.size a.2.1+(d6.size a.2.2))
def f82.lpre (a:(List (aA))×aA×aA):Prop:=f82.wf a∧f82.size a≤1048576
def f82.args (a:(List (aA))×aA×aA):List D:=[.slice .ro 13 a.1.length (gl aD a.1),.agg [.str a.2.1.1.1,.str a.2.1.1.2.1,.int .i64 a.2.1.1.2.2.1,.int .i64 a.2.1.1.2.2.2.1.1,.int .i64 a.2.1.1.2.2.2.1.2.1,.int .i64 a.2.1.1.2.2.2.1.2.2,.slice .ro 2 a.2.1.1.2.2.2.2.1.length (gl aN a.2.1.1.2.2.2.2.1),.str a.2.1.1.2.2.2.2.2.1,.str a.2.1.1.2.2.2.2.2.2.1,.int .i64 a.2.1.1.2.2.2.2.2.2.2,.int .i64 a.2.1.2.1,.str a.2.1.2.2.1,.int .i64 a.2.1.2.2.2],.agg [.str a.2.2.1.1,.str a.2.2.1.2.1,.int .i64 a.2.2.1.2.2.1,.int .i64 a.2.2.1.2.2.2.1.1,.int .i64 a.2.2.1.2.2.2.1.2.1,.int .i64 a.2.2.1.2.2.2.1.2.2,.slice .ro 2 a.2.2.1.2.2.2.2.1.length (gl aN a.2.2.1.2.2.2.2.1),.str a.2.2.1.2.2.2.2.2.1,.str a.2.2.1.2.2.2.2.2.2.1,.int .i64 a.2.2.1.2.2.2.2.2.2.2,.int .i64 a.2.2.2.1,.str a.2.2.2.2.1,.int .i64 a.2.2.2.2.2]]
def f82.blks (a:(List (aA))×aA×aA):List (List D):=[]
def f82.res (a:(List (aA))×aA×aA):List D:=[.bool (cD a)]
def f82.blks' (a:(List (aA))×aA×aA):List (List D):=[]
def f82.C:aU:=FnC f82.args f82.blks (fun a=>f82.lpre a) f82.res f82.blks'
end Go.Abs

/- interregnum/interregnumlaw14.OrderTells -/
namespace Go.Abs
open Go
set_option linter.unusedVariables false
def f82.kills (a:(List (aA))×aA×aA):List fU:=[]
def f82.cuts (a:(List (aA))×aA×aA):List (Nat×Σ β:Type,β→Tm):=[]
def f82.af (a:(List (aA))×aA×aA):AF:=AF.mk (.seq (.region [oT 4 0 .box [1],
 oT 5 1 .box [2],
 ⟨(some 6),2,.move,[.c (.bool false)],none⟩])
 (.seq (.seq (.region [oT 7 3 (.call false 91) [],
 oT 8 7 (.un .not) [7],
 oT 9 8 .move [8],
 oG 10 9 .move [0] 9 false,
 oG 11 10 (.call false 92) [10] 9 false,
 oG 12 14 (.un .not) [11] 9 false,
 ⟨(some 13),15,.pick,[.t 9,.c (.bool true),.t 12],none⟩])
 (.cond (.t 13) (.seq (.region [oT 14 16 (.call false 91) [],
 oT 6 20 .move [14]])
 (.ret)) (.skip)))
 (.seq (.region [oT 15 21 .move [0],
 oT 16 22 (.call false 93) [15],
 oT 17 26 .move [0],
 oT 18 27 (.call false 95) [17],
 oT 19 31 (.call false 94) [16,18],
 oT 20 35 .move [19],
 oG 21 36 (.load true 13) [4] 20 true,
 oG 22 37 (.load true 13) [5] 20 true,
 oG 23 38 (.call false 96) [21,22] 20 true,
 oG 24 42 (.load true 13) [4] 20 true,
 oG 25 43 (.load true 13) [5] 20 true,
 oG 26 44 (.call false 97) [24,25] 20 true,
 oG 27 48 (.binB false) [23,26] 20 true,
 ⟨(some 28),49,.pick,[.t 20,.t 27,.c (.bool false)],none⟩,
 oT 6 50 .move [28]])
 (.ret))))
 [.tmp 6] 0 26
def f82.env:Env:=[(91,f91.C),(92,f92.C),(93,f93.C),(95,f95.C),(94,f94.C),(96,f96.C),(97,f97.C)]
def f82.tree (a:(List (aA))×aA×aA):Prop:=∃ c1:Unit,True∧Br (!(cD c1)) (∃ c4:Unit,True∧((cD c4)=(cD a))∧True) (f92.ent (fun c7=>(L20 c7)∧Br (!(i9 c7)) (∃ c10:Unit,True∧((cD c10)=(cD a))∧True) (f93.ent (fun c13=>(dP c13)∧f95.ent (fun c14=>(dP c14)∧f94.ent (fun c15=>(nH c15)∧Br (j2 c15) (f96.ent (fun c18=>True∧f97.ent (fun c19=>True∧(((dX c18)==(dX c19))=(cD a))∧True) (a.2.1,a.2.2)) (a.2.1,a.2.2)) ((false=(cD a))∧True)) ((bL c13),(bL c14))) a.1) a.1)) a.1)
def f82.vc (a:(List (aA))×aA×aA):Prop:=((¬((cD ())=true)→((cD ())=cD a))∧(¬(¬((cD ())=true))→(L20 a.1∧((¬((i9 (a.1))=true)→((cD ())=cD a))∧(¬(¬((i9 (a.1))=true))→(dP a.1∧(dP a.1∧(nH ((bL (a.1)),(bL (a.1)))∧(((j2 ((bL (a.1)),(bL (a.1))))=true→(((dX (a.2.1,a.2.2))==(dX (a.2.1,a.2.2)))=cD a))∧(¬((j2 ((bL (a.1)),(bL (a.1))))=true)→(false=cD a)))))))))))
set_option maxRecDepth 100000 in
set_option maxHeartbeats 2000000 in
theorem f82.of (a:(List (aA))×aA×aA) (h:f82.vc a):f82.tree a:=⟨(),⟨trivial,br h (Cnd.not Cnd.b) (fun h2 k32=>⟨(),⟨trivial,⟨k32,trivial⟩⟩⟩) (fun h3 k33=>(f92.ei ⟨k33.1,br k33.2 (Cnd.not Cnd.b) (fun h8 k29=>⟨(),⟨trivial,⟨k29,trivial⟩⟩⟩) (fun h9 k30=>(f93.ei ⟨k30.1,(f95.ei ⟨k30.2.1,(f94.ei ⟨k30.2.2.1,br k30.2.2.2 Cnd.b (fun h16 k24=>(f96.ei ⟨trivial,(f97.ei ⟨trivial,⟨k24,trivial⟩⟩)⟩)) (fun h17 k25=>⟨k25,trivial⟩)⟩)⟩)⟩))⟩))⟩⟩
theorem f82.eq (a:(List (aA))×aA×aA):(f82.af a).gives f82.env (f82.args a) (f82.blks a) (f82.res a) (f82.blks' a)=f82.tree a:=by kernel_rfl
end Go.Abs

-- interregnum/interregnumlaw14.OrderRanks
namespace Go.Abs
open Go
end Go.Abs

/- interregnum/interregnumlaw14.OrderRanks -/
namespace Go.Abs
open Go
set_option linter.unusedVariables false
end Go.Abs

-- interregnum/interregnumlaw14.OrderGangs
namespace Go.Abs
open Go
end Go.Abs

/- interregnum/interregnumlaw14.OrderGangs -/
namespace Go.Abs
open Go
set_option linter.unusedVariables false
end Go.Abs

/- The laws of layer 14. -/
namespace Go.Abs
open Go

theorem f91.ok (a:Unit) (_:True):f91.vc a:=by
 have e:bL ([((ByteArray.empty,ByteArray.empty,(0:Int),((0:Int),(0:Int),(0:Int)),[],ByteArray.empty,ByteArray.empty,(0:Int)),(1:Int),ByteArray.empty,(0:Int)),((ByteArray.empty,ByteArray.empty,(2:Int),((0:Int),(0:Int),(0:Int)),[],ByteArray.empty,ByteArray.empty,(0:Int)),(2:Int),ByteArray.empty,(0:Int))])=[[1],[0]]:=by decide +kernel
 unfold f91.vc
 rw [e]
 refine ⟨Nat.le_of_ble_eq_true rfl,fun _=>⟨by decide,fun _=>⟨by decide,by decide,rfl⟩,fun c=>absurd rfl c⟩,fun c=>absurd rfl c⟩

theorem aFP {js:List aS} {S:List Int} {n:Nat} {u:List Int} (hn:n < S.length) (h:u∈lF js S n):(u=[S.getD n default]∨((∀ q,q < n→aO (at_ js (S.getD q default))≠aO (at_ js (S.getD n default)))∧u=S.filter fun p=>decide (aO (at_ js p)=aO (at_ js (S.getD n default))))):=by
 by_cases c:aO (at_ js (S.getD n default))=ByteArray.empty
 ·rw [pZ c] at h
  exact .inl (List.mem_singleton.1 h)
 ·rw [fD c] at h
  split at h
  next d=>exact .inr ⟨d.1,List.mem_singleton.1 h⟩
  next=>cases h
theorem aB4 {js:List aS} {S:List Int} (hd:S.Nodup) {n:Nat} {u:List Int} (hn:n < S.length) (h:u∈lF js S n):u.getD 0 default=S.getD n default∧0 < u.length∧u.Sublist S:=by
 rcases aFP hn h with rfl | ⟨h1,rfl⟩
 ·refine ⟨rfl,Nat.succ_pos 0,List.singleton_sublist.2 (xW hn)⟩
 ·obtain ⟨w1,w2⟩:=qQ hd hn (q:=fun p=>decide (aO (at_ js p)=aO (at_ js (S.getD n default)))) (decide_eq_true rfl)
  exact ⟨(w2.2 fun k hk=>decide_eq_false (h1 k hk)).symm,w1,List.filter_sublist ..⟩
theorem yR {js:List aS} {S:List Int} {n:Nat} {u:List Int} (hn:n≤S.length) (h:u∈eA js S n):∃ k,k < n∧u∈lF js S k:=by
 unfold eA at h
 obtain ⟨k,h1,h2⟩:=List.mem_flatMap.1 h
 exact ⟨k,List.mem_range.1 h1,h2⟩
theorem aA6 {js:List aS} {S:List Int} (hd:S.Nodup) {u:List Int} (h:u∈eA js S S.length):0 < u.length∧u.Sublist S:=by
 obtain ⟨k,h1,h2⟩:=yR (Nat.le_refl _) h
 exact (aB4 hd h1 h2).2
theorem aEN {a:List aS} (h:dP a):L20 (bL a)∧∀ u∈bL a,L20 u:=by
 have h:a.length≤1048576:=h
 have h1:=l8 a
 have h2:=mI a (bN a) (bN a).length
 refine ⟨Nat.le_trans (Nat.le_trans h2 h1) h,fun u hu=>?_⟩
 have:=(aA6 (oY a) hu).2.length_le
 unfold L20
 omega

theorem f82.ok (a:List aS×aS×aS) (h:f82.lpre a):f82.vc a:=by
 obtain ⟨_,hs⟩:=h
 obtain ⟨l,x,y⟩:=a
 have hs:fQ.size l+(d6.size x+d6.size y)≤1048576:=hs
 have h1:L20 l:=v6 (l:=l) (by omega)
 have h2:=aEN (a:=l) h1
 exact ⟨fun _=>rfl,fun _=>⟨h1,fun _=>rfl,fun _=>⟨h1,h1,⟨h2,h2⟩,fun _=>beq_self_eq_true _,fun c=>absurd (decide_eq_true rfl) c⟩⟩⟩

end Go.Abs
