/- Functions, and what the code asks of them: POrdLaw. -/
import Derived.KernelRfl
import Derived.Test.YtjlehbennimkgabOrderOnceP4
import Derived.Test.YtjlehbennimkgabOrderOnceP5
import Derived.Test.YtjlehbennimkgabOrderOnceP6
import Derived.Test.YtjlehbennimkgabOrderOnceP7
import Derived.Test.YtjlehbennimkgabOrderOnceP8
import Derived.Test.YtjlehbennimkgabOrderOnceP9
import Derived.Test.YtjlehbennimkgabOrderOnceP10
import Derived.Test.YtjlehbennimkgabOrderOnceP11
import Derived.Test.YtjlehbennimkgabOrderOnceP12
import Derived.Test.YtjlehbennimkgabOrderOnceP14
import Derived.Test.YtjlehbennimkgabOrderOnceP15
import Derived.Test.YtjlehbennimkgabOrderOnceP17
import Derived.Test.YtjlehbennimkgabOrderOnceP18
import Derived.Test.YtjlehbennimkgabOrderOnceP19
import Derived.Test.YtjlehbennimkgabOrderOnceP20
set_option maxRecDepth 100000
set_option maxHeartbeats 4000000
set_option linter.unusedVariables false
set_option linter.unusedSimpArgs false
-- interregnum/interregnumlaw14.awake
namespace Go.Abs
open Go
def f91.args (a:Unit):List D:=[]
def f91.blks (a:Unit):List (List D):=[]
def f91.res (a:Unit):List D:=[.bool (a9 a)]
def f91.blks' (a:Unit):List (List D):=[]
def f91.C:aX:=FnC f91.args f91.blks (fun _=>True) f91.res f91.blks'
set_option linter.unusedVariables false
def f91.kills (a:Unit):List iX:=[]
def f91.cuts (a:Unit):List (Nat×Σ β:Type,β→Tm):=[]
def f91.af (a:Unit):AF:=AF.mk (.seq (.region [⟨(some 0),0,.move,[.c (.bool false)],none⟩])
 (.seq (.region [⟨(some 2),1,(.build [.str ByteArray.empty,.str ByteArray.empty,.int .i64 (0),.int .i64 (0),.int .i64 (0),.int .i64 (0),.slice .full 2 0 dB,.str ByteArray.empty,.str ByteArray.empty,.int .i64 (0),.int .i64 (0),.str ByteArray.empty,.int .i64 (0)] [(10,1)]),[.c (.int .i64 (1))],none⟩,
 ⟨(some 3),2,(.build [.str ByteArray.empty,.str ByteArray.empty,.int .i64 (0),.int .i64 (0),.int .i64 (0),.int .i64 (0),.slice .full 2 0 dB,.str ByteArray.empty,.str ByteArray.empty,.int .i64 (0)] [(2,1)]),[.c (.int .i64 (2))],none⟩,
 ⟨(some 4),3,(.build [.str ByteArray.empty,.str ByteArray.empty,.int .i64 (0),.int .i64 (0),.int .i64 (0),.int .i64 (0),.slice .full 2 0 dB,.str ByteArray.empty,.str ByteArray.empty,.int .i64 (0),.int .i64 (0),.str ByteArray.empty,.int .i64 (0)] [(0,10),(10,1)]),[.t 3,.c (.int .i64 (2))],none⟩,
 oT 5 4 (.buildSlice 13 2 [.str ByteArray.empty,.str ByteArray.empty,.int .i64 (0),.int .i64 (0),.int .i64 (0),.int .i64 (0),.slice .full 2 0 dB,.str ByteArray.empty,.str ByteArray.empty,.int .i64 (0),.int .i64 (0),.str ByteArray.empty,.int .i64 (0)] [(0,13),(13,13)]) [2,4],
 oT 6 5 (.call false 93) [5],
 oT 1 9 .move [6]])
 (.seq (.region [oT 7 10 .move [1],
 oT 8 11 (.len false) [7],
 ⟨(some 9),12,(.bin .eql),[.t 8,.c (.int .i64 (2))],none⟩,
 oT 10 13 .move [9],
 oG 11 14 .move [1] 10 true,
 ⟨(some 12),15,(.indexAddr 1 none),[.t 11,.c (.int .i64 (0))],(some (10,true))⟩,
 oG 13 16 (.load false 1) [12] 10 true,
 oG 14 17 (.len false) [13] 10 true,
 ⟨(some 15),18,(.bin .eql),[.t 14,.c (.int .i64 (1))],(some (10,true))⟩,
 ⟨(some 16),19,.pick,[.t 10,.t 15,.c (.bool false)],none⟩,
 oT 17 20 .move [16],
 oG 18 21 .move [1] 17 true,
 ⟨(some 19),22,(.indexAddr 1 none),[.t 18,.c (.int .i64 (0))],(some (17,true))⟩,
 oG 20 23 (.load false 1) [19] 17 true,
 ⟨(some 21),24,(.indexAddr 1 none),[.t 20,.c (.int .i64 (0))],(some (17,true))⟩,
 oG 22 25 (.load false 1) [21] 17 true,
 ⟨(some 23),26,(.bin .eql),[.t 22,.c (.int .i64 (1))],(some (17,true))⟩,
 ⟨(some 24),27,.pick,[.t 17,.t 23,.c (.bool false)],none⟩,
 oT 0 28 .move [24]])
 (.ret))))
 [.tmp 0] 0 25
def f91.env:Env:=[(93,f93.C)]
def f91.tree (a:Unit):Prop:=∃ c1:List (aB),SlQ 2 c1.length (fun j=>List.take 13 (List.drop (j * 13) [.str ByteArray.empty,.str ByteArray.empty,.int .i64 (0:Int),.int .i64 (0:Int),.int .i64 (0:Int),.int .i64 (0:Int),.slice .ro 2 0 dB,.str ByteArray.empty,.str ByteArray.empty,.int .i64 (0:Int),.int .i64 (1:Int),.str ByteArray.empty,.int .i64 (0:Int),.str ByteArray.empty,.str ByteArray.empty,.int .i64 (2:Int),.int .i64 (0:Int),.int .i64 (0:Int),.int .i64 (0:Int),.slice .ro 2 0 dB,.str ByteArray.empty,.str ByteArray.empty,.int .i64 (0:Int),.int .i64 (2:Int),.str ByteArray.empty,.int .i64 (0:Int)])) (gl aD c1) ((gA c1)∧Br (((bK c1).length:Int)==(2:Int)) (Br (decide ((0:Int)≤(0:Int))&&decide ((0:Int) < ((bK c1).length:Int))) (Br (((at_ (bK c1) (0:Int)).length:Int)==(1:Int)) (Br (decide ((0:Int)≤(0:Int))&&decide ((0:Int) < ((bK c1).length:Int))) (Br (decide ((0:Int)≤(0:Int))&&decide ((0:Int) < ((at_ (bK c1) (0:Int)).length:Int))) ((((at_ (at_ (bK c1) (0:Int)) (0:Int))==(1:Int))=(a9 a))∧True) False) False) ((false=(a9 a))∧True)) False) ((false=(a9 a))∧True))
def f91.vc (a:Unit):Prop:=(gA ([((ByteArray.empty,ByteArray.empty,(0:Int),((0:Int),(0:Int),(0:Int)),[],ByteArray.empty,ByteArray.empty,(0:Int)),(1:Int),ByteArray.empty,(0:Int)),((ByteArray.empty,ByteArray.empty,(2:Int),((0:Int),(0:Int),(0:Int)),[],ByteArray.empty,ByteArray.empty,(0:Int)),(2:Int),ByteArray.empty,(0:Int))])∧((((bK ([((ByteArray.empty,ByteArray.empty,(0:Int),((0:Int),(0:Int),(0:Int)),[],ByteArray.empty,ByteArray.empty,(0:Int)),(1:Int),ByteArray.empty,(0:Int)),((ByteArray.empty,ByteArray.empty,(2:Int),((0:Int),(0:Int),(0:Int)),[],ByteArray.empty,ByteArray.empty,(0:Int)),(2:Int),ByteArray.empty,(0:Int))])).length:Int)=(2:Int)→((0:Int) < ((bK ([((ByteArray.empty,ByteArray.empty,(0:Int),((0:Int),(0:Int),(0:Int)),[],ByteArray.empty,ByteArray.empty,(0:Int)),(1:Int),ByteArray.empty,(0:Int)),((ByteArray.empty,ByteArray.empty,(2:Int),((0:Int),(0:Int),(0:Int)),[],ByteArray.empty,ByteArray.empty,(0:Int)),(2:Int),ByteArray.empty,(0:Int))])).length:Int)∧((((at_ (bK ([((ByteArray.empty,ByteArray.empty,(0:Int),((0:Int),(0:Int),(0:Int)),[],ByteArray.empty,ByteArray.empty,(0:Int)),(1:Int),ByteArray.empty,(0:Int)),((ByteArray.empty,ByteArray.empty,(2:Int),((0:Int),(0:Int),(0:Int)),[],ByteArray.empty,ByteArray.empty,(0:Int)),(2:Int),ByteArray.empty,(0:Int))])) (0:Int)).length:Int)=(1:Int)→((0:Int) < ((bK ([((ByteArray.empty,ByteArray.empty,(0:Int),((0:Int),(0:Int),(0:Int)),[],ByteArray.empty,ByteArray.empty,(0:Int)),(1:Int),ByteArray.empty,(0:Int)),((ByteArray.empty,ByteArray.empty,(2:Int),((0:Int),(0:Int),(0:Int)),[],ByteArray.empty,ByteArray.empty,(0:Int)),(2:Int),ByteArray.empty,(0:Int))])).length:Int)∧((0:Int) < ((at_ (bK ([((ByteArray.empty,ByteArray.empty,(0:Int),((0:Int),(0:Int),(0:Int)),[],ByteArray.empty,ByteArray.empty,(0:Int)),(1:Int),ByteArray.empty,(0:Int)),((ByteArray.empty,ByteArray.empty,(2:Int),((0:Int),(0:Int),(0:Int)),[],ByteArray.empty,ByteArray.empty,(0:Int)),(2:Int),ByteArray.empty,(0:Int))])) (0:Int)).length:Int)∧(((at_ (at_ (bK ([((ByteArray.empty,ByteArray.empty,(0:Int),((0:Int),(0:Int),(0:Int)),[],ByteArray.empty,ByteArray.empty,(0:Int)),(1:Int),ByteArray.empty,(0:Int)),((ByteArray.empty,ByteArray.empty,(2:Int),((0:Int),(0:Int),(0:Int)),[],ByteArray.empty,ByteArray.empty,(0:Int)),(2:Int),ByteArray.empty,(0:Int))])) (0:Int)) (0:Int))==(1:Int))=a9 a))))∧(¬(((at_ (bK ([((ByteArray.empty,ByteArray.empty,(0:Int),((0:Int),(0:Int),(0:Int)),[],ByteArray.empty,ByteArray.empty,(0:Int)),(1:Int),ByteArray.empty,(0:Int)),((ByteArray.empty,ByteArray.empty,(2:Int),((0:Int),(0:Int),(0:Int)),[],ByteArray.empty,ByteArray.empty,(0:Int)),(2:Int),ByteArray.empty,(0:Int))])) (0:Int)).length:Int)=(1:Int))→(false=a9 a)))))∧(¬(((bK ([((ByteArray.empty,ByteArray.empty,(0:Int),((0:Int),(0:Int),(0:Int)),[],ByteArray.empty,ByteArray.empty,(0:Int)),(1:Int),ByteArray.empty,(0:Int)),((ByteArray.empty,ByteArray.empty,(2:Int),((0:Int),(0:Int),(0:Int)),[],ByteArray.empty,ByteArray.empty,(0:Int)),(2:Int),ByteArray.empty,(0:Int))])).length:Int)=(2:Int))→(false=a9 a))))
theorem f91.of (a:Unit) (h:f91.vc a):f91.tree a:=⟨[((ByteArray.empty,ByteArray.empty,(0:Int),((0:Int),(0:Int),(0:Int)),[],ByteArray.empty,ByteArray.empty,(0:Int)),(1:Int),ByteArray.empty,(0:Int)),((ByteArray.empty,ByteArray.empty,(2:Int),((0:Int),(0:Int),(0:Int)),[],ByteArray.empty,ByteArray.empty,(0:Int)),(2:Int),ByteArray.empty,(0:Int))],slQ (Rds.rowD (enc:=aD) rfl (fun i hi=>match i,hi with | 0,_=>(DEqs.cons (DEq.refl _) (DEqs.cons (DEq.refl _) (DEqs.cons (DEq.refl _) (DEqs.cons (DEq.refl _) (DEqs.cons (DEq.refl _) (DEqs.cons (DEq.refl _) (DEqs.cons ((Rds.nil (enc:=bO))).deq (DEqs.cons (DEq.refl _) (DEqs.cons (DEq.refl _) (DEqs.cons (DEq.refl _) (DEqs.cons (DEq.refl _) (DEqs.cons (DEq.refl _) (DEqs.cons (DEq.refl _) DEqs.nil))))))))))))) | 1,_=>(DEqs.cons (DEq.refl _) (DEqs.cons (DEq.refl _) (DEqs.cons (DEq.refl _) (DEqs.cons (DEq.refl _) (DEqs.cons (DEq.refl _) (DEqs.cons (DEq.refl _) (DEqs.cons ((Rds.nil (enc:=bO))).deq (DEqs.cons (DEq.refl _) (DEqs.cons (DEq.refl _) (DEqs.cons (DEq.refl _) (DEqs.cons (DEq.refl _) (DEqs.cons (DEq.refl _) (DEqs.cons (DEq.refl _) DEqs.nil))))))))))))) | _+2,hi=>absurd hi (Nat.not_lt.2 (Nat.le_add_left _ _)))) (⟨h.1,br h.2 Cnd.eq (fun h2 k17=>chk k17.2 Cnd.ix ⟨(by decide),k17.1⟩ (fun h4 k15=>br k15 Cnd.eq (fun h5 k13=>chk k13.2 Cnd.ix ⟨(by decide),k13.1⟩ (fun h7 k11=>chk k11.2 Cnd.ix ⟨(by decide),k11.1⟩ (fun h8 k10=>⟨k10,trivial⟩))) (fun h6 k14=>⟨k14,trivial⟩))) (fun h3 k18=>⟨k18,trivial⟩)⟩)⟩
theorem f91.eq (a:Unit):(f91.af a).gives f91.env (f91.args a) (f91.blks a) (f91.res a) (f91.blks' a)=f91.tree a:=by kernel_rfl
set_option linter.unusedVariables false
theorem f91.ok (a:Unit) (_:True):f91.vc a:=by
 have e:bK ([((ByteArray.empty,ByteArray.empty,(0:Int),((0:Int),(0:Int),(0:Int)),[],ByteArray.empty,ByteArray.empty,(0:Int)),(1:Int),ByteArray.empty,(0:Int)),((ByteArray.empty,ByteArray.empty,(2:Int),((0:Int),(0:Int),(0:Int)),[],ByteArray.empty,ByteArray.empty,(0:Int)),(2:Int),ByteArray.empty,(0:Int))])=[[1],[0]]:=by decide +kernel
 unfold f91.vc
 rw [e]
 refine ⟨Nat.le_of_ble_eq_true rfl,fun _=>⟨by decide,fun _=>⟨by decide,by decide,rfl⟩,fun c=>absurd rfl c⟩,fun c=>absurd rfl c⟩
theorem aFU {js:List aU} {S:List Int} {n:Nat} {u:List Int} (hn:n < S.length) (h:u∈jR js S n):(u=[S.getD n default]∨((∀ q,q < n→aN (at_ js (S.getD q default))≠aN (at_ js (S.getD n default)))∧u=S.filter fun p=>decide (aN (at_ js p)=aN (at_ js (S.getD n default))))):=by
 by_cases c:aN (at_ js (S.getD n default))=ByteArray.empty
 ·rw [nE c] at h
  exact .inl (List.mem_singleton.1 h)
 ·rw [iQ c] at h
  split at h
  next d=>exact .inr ⟨d.1,List.mem_singleton.1 h⟩
  next=>cases h
theorem qH {js:List aU} {S:List Int} (hd:S.Nodup) {n:Nat} {u:List Int} (hn:n < S.length) (h:u∈jR js S n):u.getD 0 default=S.getD n default∧0 < u.length∧u.Sublist S:=by
 rcases aFU hn h with rfl | ⟨h1,rfl⟩
 ·refine ⟨rfl,Nat.succ_pos 0,List.singleton_sublist.2 (xV hn)⟩
 ·obtain ⟨w1,w2⟩:=qP hd hn (q:=fun p=>decide (aN (at_ js p)=aN (at_ js (S.getD n default)))) (decide_eq_true rfl)
  exact ⟨(w2.2 fun k hk=>decide_eq_false (h1 k hk)).symm,w1,List.filter_sublist ..⟩
theorem l0 {js:List aU} {S:List Int} {n:Nat} {u:List Int} (hn:n≤S.length) (h:u∈d6 js S n):∃ k,k < n∧u∈jR js S k:=by
 unfold d6 at h
 obtain ⟨k,h1,h2⟩:=List.mem_flatMap.1 h
 exact ⟨k,List.mem_range.1 h1,h2⟩
theorem tU {js:List aU} {S:List Int} (hd:S.Nodup) {u:List Int} (h:u∈d6 js S S.length):0 < u.length∧u.Sublist S:=by
 obtain ⟨k,h1,h2⟩:=l0 (Nat.le_refl _) h
 exact (qH hd h1 h2).2
theorem aDD {a:List aU} (h:gA a):L20 (bK a)∧∀ u∈bK a,L20 u:=by
 have h:a.length≤1048576:=h
 have h1:=mA a
 have h2:=qQ a (cU a) (cU a).length
 refine ⟨Nat.le_trans (Nat.le_trans h2 h1) h,fun u hu=>?_⟩
 have:=(tU (j9 a) hu).2.length_le
 unfold L20
 omega
end Go.Abs
