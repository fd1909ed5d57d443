/- Functions, and what the code asks of them: PIdentLaw. -/
import Derived.KernelRfl
import Derived.Test.YtjlehbennimkgaaIdentNamesP3
import Derived.Test.YtjlehbennimkgaaIdentNamesP4
import Derived.Test.YtjlehbennimkgaaIdentNamesP5
import Derived.Test.YtjlehbennimkgaaIdentNamesP6
import Derived.Test.YtjlehbennimkgaaIdentNamesP7
import Derived.Test.YtjlehbennimkgaaIdentNamesP8
import Derived.Test.YtjlehbennimkgaaIdentNamesP9
import Derived.Test.YtjlehbennimkgaaIdentNamesP10
import Derived.Test.YtjlehbennimkgaaIdentNamesP11
import Derived.Test.YtjlehbennimkgaaIdentNamesP12
import Derived.Test.YtjlehbennimkgaaIdentNamesP13
import Derived.Test.YtjlehbennimkgaaIdentNamesP14
import Derived.Test.YtjlehbennimkgaaIdentNamesP15
import Derived.Test.YtjlehbennimkgaaIdentNamesP16
import Derived.Test.YtjlehbennimkgaaIdentNamesP19
import Derived.Test.YtjlehbennimkgaaIdentNamesP20
import Derived.Test.YtjlehbennimkgaaIdentNamesP21
import Derived.Test.YtjlehbennimkgaaIdentNamesP22
import Derived.Test.YtjlehbennimkgaaIdentNamesP23
set_option linter.unusedVariables false
set_option linter.unusedSimpArgs false
-- interregnum/interregnumlaw04.awake
namespace Go.Abs
open Go
def f383.args (a:Unit):List D:=[]
def f383.blks (a:Unit):List (List D):=[]
def f383.res (a:Unit):List D:=[.bool (bV a)]
def f383.blks' (a:Unit):List (List D):=[]
def f383.C:aL:=FnC f383.args f383.blks (fun _=>True) f383.res f383.blks'
end Go.Abs

/- interregnum/interregnumlaw04.awake -/
namespace Go.Abs
open Go
set_option linter.unusedVariables false
def f383.s0:ByteArray:=⟨#[98]⟩
def f383.s1:ByteArray:=⟨#[49]⟩
def f383.s2:ByteArray:=⟨#[97]⟩
def f383.s3:ByteArray:=⟨#[50]⟩
def f383.s4:ByteArray:=⟨#[103,112,117,45,49]⟩
def f383.kills (a:Unit):List Hint:=[]
def f383.cuts (a:Unit):List (Nat×Σ β:Type,β→Tm):=[]
def f383.af (a:Unit):AF:=AF.mk (.seq (.region [⟨(some 0),0,.move,[.c (.bool false)],none⟩])
 (.seq (.region [⟨(some 2),1,(.build [.str ByteArray.empty,.str ByteArray.empty] [(0,1),(1,1)]),[.c (.str f383.s0),.c (.str f383.s1)],none⟩,
 ⟨(some 3),2,(.build [.str ByteArray.empty,.str ByteArray.empty] [(0,1),(1,1)]),[.c (.str f383.s2),.c (.str f383.s3)],none⟩,
 oT 4 3 (.buildSlice 2 2 [.str ByteArray.empty,.str ByteArray.empty] [(0,2),(2,2)]) [2,3],
 oT 5 4 (.call false 385) [4],
 oT 1 8 .move [5]])
 (.seq (.region [⟨(some 6),9,(.call false 48),[.c (.str f383.s4)],none⟩,
 oT 7 13 .move [6],
 oG 8 14 .move [1] 7 true,
 oG 9 15 (.len false) [8] 7 true,
 ⟨(some 10),16,(.bin .eql),[.t 9,.c (.int .i64 (2))],(some (7,true))⟩,
 ⟨(some 11),17,.pick,[.t 7,.t 10,.c (.bool false)],none⟩,
 oT 12 18 .move [11],
 oG 13 19 .move [1] 12 true,
 ⟨(some 14),20,(.indexAddr 2 none),[.t 13,.c (.int .i64 (0))],(some (12,true))⟩,
 oG 15 21 (.fieldAddr 0) [14] 12 true,
 oG 16 22 (.load false 1) [15] 12 true,
 ⟨(some 17),23,(.bin .eql),[.t 16,.c (.str f383.s2)],(some (12,true))⟩,
 ⟨(some 18),24,.pick,[.t 12,.t 17,.c (.bool false)],none⟩,
 oT 19 25 .move [18],
 oG 20 26 .move [1] 19 true,
 oG 21 27 (.call false 50) [20] 19 true,
 ⟨(some 22),31,.pick,[.t 19,.t 21,.c (.bool false)],none⟩,
 oT 0 32 .move [22]])
 (.ret))))
 [.tmp 0] 0 23
def f383.env:Env:=[(385,f385.C),(48,f48.C),(50,f50.C)]
def f383.tree (a:Unit):Prop:=∃ c1:List (aC),SlQ 2 c1.length (fun j=>List.take 2 (List.drop (j * 2) [.str f383.s0,.str f383.s1,.str f383.s2,.str f383.s3])) (gl aE c1) ((L20 c1)∧∃ c2:ByteArray,(f383.s4=c2)∧(bU c2)∧Br (bF c2) (Br (((cB c1).length:Int)==(2:Int)) (Br (decide ((0:Int)≤(0:Int))&&decide ((0:Int) < ((cB c1).length:Int))) (Br (((at_ (cB c1) (0:Int)).1).toList==f383.s2.toList) (f50.ent (fun c10=>(dQ c10)∧((bB c10)=(bV a))∧True) (cB c1)) ((false=(bV a))∧True)) False) ((false=(bV a))∧True)) ((false=(bV a))∧True))
def f383.vc (a:Unit):Prop:=(L20 ([(f383.s0,f383.s1),(f383.s2,f383.s3)])∧(bU f383.s4∧(((bF (f383.s4))=true→((((cB ([(f383.s0,f383.s1),(f383.s2,f383.s3)])).length:Int)=(2:Int)→((0:Int) < ((cB ([(f383.s0,f383.s1),(f383.s2,f383.s3)])).length:Int)∧((((at_ (cB ([(f383.s0,f383.s1),(f383.s2,f383.s3)])) (0:Int)).1)=f383.s2→(dQ (cB ([(f383.s0,f383.s1),(f383.s2,f383.s3)]))∧((bB (cB ([(f383.s0,f383.s1),(f383.s2,f383.s3)])))=bV a)))∧(¬(((at_ (cB ([(f383.s0,f383.s1),(f383.s2,f383.s3)])) (0:Int)).1)=f383.s2)→(false=bV a)))))∧(¬(((cB ([(f383.s0,f383.s1),(f383.s2,f383.s3)])).length:Int)=(2:Int))→(false=bV a))))∧(¬((bF (f383.s4))=true)→(false=bV a)))))
set_option maxRecDepth 100000 in
set_option maxHeartbeats 2000000 in
theorem f383.of (a:Unit) (h:f383.vc a):f383.tree a:=⟨[(f383.s0,f383.s1),(f383.s2,f383.s3)],slQ (Rds.row (enc:=aE) ⟨rfl,fun i hi=>by repeat (first | rfl | exact absurd hi (Nat.not_lt.2 (Nat.le_add_left 2 _)) | (cases i with | zero=>rfl | succ i=>?_))⟩) (⟨h.1,⟨f383.s4,⟨rfl,⟨h.2.1,br h.2.2 Cnd.b (fun h3 k21=>br k21 Cnd.eq (fun h5 k18=>chk k18.2 Cnd.ix ⟨(by decide),k18.1⟩ (fun h7 k16=>br k16 Cnd.seq (fun h8 k14=>(f50.ei ⟨k14.1,⟨k14.2,trivial⟩⟩)) (fun h9 k15=>⟨k15,trivial⟩))) (fun h6 k19=>⟨k19,trivial⟩)) (fun h4 k22=>⟨k22,trivial⟩)⟩⟩⟩⟩)⟩
theorem f383.eq (a:Unit):(f383.af a).gives f383.env (f383.args a) (f383.blks a) (f383.res a) (f383.blks' a)=f383.tree a:=by kernel_rfl
end Go.Abs

-- interregnum/interregnumlaw04.IdentNames
namespace Go.Abs
open Go
def f372.wf (a:ByteArray×(List (aC))):Prop:=gR.ok a.1∧b6.ok a.2
def f372.size (a:ByteArray×(List (aC))):Nat:=gR.size a.1+b6.size a.2
def f372.lpre (a:ByteArray×(List (aC))):Prop:=f372.wf a∧f372.size a≤1048576
def f372.args (a:ByteArray×(List (aC))):List D:=[.str a.1,.slice .ro 2 a.2.length (gl aE a.2)]
def f372.blks (a:ByteArray×(List (aC))):List (List D):=[]
def f372.res (a:ByteArray×(List (aC))):List D:=[.bool (bV a)]
def f372.blks' (a:ByteArray×(List (aC))):List (List D):=[]
def f372.C:aL:=FnC f372.args f372.blks (fun a=>f372.lpre a) f372.res f372.blks'
end Go.Abs

/- interregnum/interregnumlaw04.IdentNames -/
namespace Go.Abs
open Go
set_option linter.unusedVariables false
def f372.kills (a:ByteArray×(List (aC))):List Hint:=[]
def f372.cuts (a:ByteArray×(List (aC))):List (Nat×Σ β:Type,β→Tm):=[]
def f372.af (a:ByteArray×(List (aC))):AF:=AF.mk (.seq (.region [⟨(some 4),0,.move,[.c (.bool false)],none⟩])
 (.seq (.seq (.region [oT 5 1 (.call false 383) [],
 oT 6 5 (.un .not) [5],
 oT 7 6 .move [6],
 oG 8 7 .move [1] 7 false,
 oG 9 8 (.call false 384) [8] 7 false,
 oG 10 12 (.un .not) [9] 7 false,
 ⟨(some 11),13,.pick,[.t 7,.c (.bool true),.t 10],none⟩])
 (.cond (.t 11) (.seq (.region [oT 12 14 (.call false 383) [],
 oT 4 18 .move [12]])
 (.ret)) (.skip)))
 (.seq (.region [oT 13 19 .move [0],
 oT 14 20 (.call false 48) [13],
 oT 15 24 .move [0],
 oT 16 25 (.call false 58) [15],
 oT 17 29 (.binB false) [14,16],
 oT 18 30 .move [17],
 oG 19 31 .move [1] 18 true,
 oG 20 32 (.call false 50) [19] 18 true,
 oG 21 36 .move [1] 18 true,
 oG 22 37 (.call false 59) [21] 18 true,
 oG 23 41 (.binB false) [20,22] 18 true,
 ⟨(some 24),42,.pick,[.t 18,.t 23,.c (.bool false)],none⟩,
 oT 4 43 .move [24]])
 (.ret))))
 [.tmp 4] 0 23
def f372.env:Env:=[(383,f383.C),(384,f384.C),(48,f48.C),(58,f58.C),(50,f50.C),(59,f59.C)]
def f372.tree (a:ByteArray×(List (aC))):Prop:=∃ c1:Unit,True∧Br (!(bV c1)) (∃ c4:Unit,True∧((bV c4)=(bV a))∧True) (f384.ent (fun c7=>(kV c7)∧Br (!(n5 c7)) (∃ c10:Unit,True∧((bV c10)=(bV a))∧True) (∃ c13:ByteArray,(a.1=c13)∧(bU c13)∧∃ c14:ByteArray,(a.1=c14)∧(bU c14)∧Br ((bF c13)==(bF c14)) (f50.ent (fun c17=>(dQ c17)∧f59.ent (fun c18=>(dQ c18)∧(((bB c17)==(bB c18))=(bV a))∧True) a.2) a.2) ((false=(bV a))∧True))) a.2)
def f372.vc (a:ByteArray×(List (aC))):Prop:=((¬((bV ())=true)→((bV ())=bV a))∧(¬(¬((bV ())=true))→(kV a.2∧((¬((n5 (a.2))=true)→((bV ())=bV a))∧(¬(¬((n5 (a.2))=true))→(bU a.1∧(bU a.1∧((((bF (a.1))==(bF (a.1)))=true→(dQ a.2∧(dQ a.2∧(((bB (a.2))==(bB (a.2)))=bV a))))∧(¬(((bF (a.1))==(bF (a.1)))=true)→(false=bV a))))))))))
set_option maxRecDepth 100000 in
set_option maxHeartbeats 2000000 in
theorem f372.of (a:ByteArray×(List (aC))) (h:f372.vc a):f372.tree a:=⟨(),⟨trivial,br h (Cnd.not Cnd.b) (fun h2 k30=>⟨(),⟨trivial,⟨k30,trivial⟩⟩⟩) (fun h3 k31=>(f384.ei ⟨k31.1,br k31.2 (Cnd.not Cnd.b) (fun h8 k27=>⟨(),⟨trivial,⟨k27,trivial⟩⟩⟩) (fun h9 k28=>⟨a.1,⟨rfl,⟨k28.1,⟨a.1,⟨rfl,⟨k28.2.1,br k28.2.2 Cnd.b (fun h15 k23=>(f50.ei ⟨k23.1,(f59.ei ⟨k23.2.1,⟨k23.2.2,trivial⟩⟩)⟩)) (fun h16 k24=>⟨k24,trivial⟩)⟩⟩⟩⟩⟩⟩)⟩))⟩⟩
theorem f372.eq (a:ByteArray×(List (aC))):(f372.af a).gives f372.env (f372.args a) (f372.blks a) (f372.res a) (f372.blks' a)=f372.tree a:=by kernel_rfl
end Go.Abs

-- interregnum/interregnumlaw04.IdentBuilds
namespace Go.Abs
open Go
end Go.Abs

/- interregnum/interregnumlaw04.IdentBuilds -/
namespace Go.Abs
open Go
set_option linter.unusedVariables false
end Go.Abs

-- interregnum/interregnumlaw04.IdentSorted
namespace Go.Abs
open Go
end Go.Abs

/- interregnum/interregnumlaw04.IdentSorted -/
namespace Go.Abs
open Go
set_option linter.unusedVariables false
end Go.Abs

-- interregnum/interregnumlaw04.IdentLabels
namespace Go.Abs
open Go
end Go.Abs

/- interregnum/interregnumlaw04.IdentLabels -/
namespace Go.Abs
open Go
set_option linter.unusedVariables false
end Go.Abs

-- interregnum/interregnumlaw04.IdentHas
namespace Go.Abs
open Go
end Go.Abs

/- interregnum/interregnumlaw04.IdentHas -/
namespace Go.Abs
open Go
set_option linter.unusedVariables false
end Go.Abs

/- The laws of layer 4. -/
namespace Go.Abs
open Go

theorem f383.ok (a:Unit) (_:True):f383.vc a:=by
 have e:cB [(f383.s0,f383.s1),(f383.s2,f383.s3)]=[(f383.s2,f383.s3),(f383.s0,f383.s1)]:=by decide +kernel
 have e1:bF f383.s4=true:=by decide +kernel
 have e2:bB [(f383.s2,f383.s3),(f383.s0,f383.s1)]=true:=by decide +kernel
 unfold f383.vc
 rw [e,e1,e2]
 refine ⟨Nat.le_of_ble_eq_true rfl,Nat.le_of_ble_eq_true rfl,fun _=>⟨fun _=>⟨(by decide),fun _=>⟨fun x hx=>?_,rfl⟩,fun c=>absurd rfl c⟩,fun c=>absurd rfl c⟩,fun c=>absurd rfl c⟩
 rcases List.mem_cons.1 hx with rfl | hx
 ·exact ⟨Nat.le_of_ble_eq_true rfl,Nat.le_of_ble_eq_true rfl⟩
 ·rw [List.mem_singleton.1 hx]
  exact ⟨Nat.le_of_ble_eq_true rfl,Nat.le_of_ble_eq_true rfl⟩

theorem yP {l:List cI} (h:b6.size l≤1048576):kV l∧dQ l∧L20 l:=by
 refine ⟨⟨p4 h,fun x hx=>?_⟩,vD h,p4 h⟩
 have h1:cD.size x≤(l.map cD.size).sum:=aBW _ hx
 have h2:(l.map cD.size).sum+1≤1048576:=h
 have h3:x.1.size+1+(x.2.size+1)+1=cD.size x:=rfl
 omega
theorem f372.ok (a:ByteArray×List cI) (h:f372.lpre a):f372.vc a:=by
 obtain ⟨_,hs⟩:=h
 obtain ⟨s,l⟩:=a
 have hs:s.size+1+b6.size l≤1048576:=hs
 obtain ⟨h1,h2,h3⟩:=yP (l:=l) (by omega)
 have hn:bU s:=by
  unfold bU
  omega
 exact ⟨fun _=>rfl,fun _=>⟨h1,fun _=>rfl,fun _=>⟨hn,hn,fun _=>⟨h2,h2,beq_self_eq_true _⟩,fun c=>absurd (beq_self_eq_true _) c⟩⟩⟩

end Go.Abs
