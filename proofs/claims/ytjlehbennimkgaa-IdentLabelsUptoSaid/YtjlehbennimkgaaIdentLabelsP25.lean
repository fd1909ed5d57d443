/- Functions, and what the code asks of them: PIdentLaw. -/
import Derived.KernelRfl
import Derived.Test.YtjlehbennimkgaaIdentLabelsP4
import Derived.Test.YtjlehbennimkgaaIdentLabelsP5
import Derived.Test.YtjlehbennimkgaaIdentLabelsP6
import Derived.Test.YtjlehbennimkgaaIdentLabelsP7
import Derived.Test.YtjlehbennimkgaaIdentLabelsP8
import Derived.Test.YtjlehbennimkgaaIdentLabelsP9
import Derived.Test.YtjlehbennimkgaaIdentLabelsP10
import Derived.Test.YtjlehbennimkgaaIdentLabelsP11
import Derived.Test.YtjlehbennimkgaaIdentLabelsP12
import Derived.Test.YtjlehbennimkgaaIdentLabelsP13
import Derived.Test.YtjlehbennimkgaaIdentLabelsP14
import Derived.Test.YtjlehbennimkgaaIdentLabelsP15
import Derived.Test.YtjlehbennimkgaaIdentLabelsP16
import Derived.Test.YtjlehbennimkgaaIdentLabelsP17
import Derived.Test.YtjlehbennimkgaaIdentLabelsP20
import Derived.Test.YtjlehbennimkgaaIdentLabelsP21
import Derived.Test.YtjlehbennimkgaaIdentLabelsP22
import Derived.Test.YtjlehbennimkgaaIdentLabelsP23
import Derived.Test.YtjlehbennimkgaaIdentLabelsP24
set_option linter.unusedVariables false
set_option linter.unusedSimpArgs false
-- interregnum/interregnumlaw04.awake
namespace Go.Abs
open Go
def f383.args (a:Unit):List D:=[]
def f383.blks (a:Unit):List (List D):=[]
def f383.res (a:Unit):List D:=[.bool (bJ a)]
def f383.blks' (a:Unit):List (List D):=[]
def f383.C:aK:=FnC f383.args f383.blks (fun _=>True) f383.res f383.blks'
end Go.Abs

/- interregnum/interregnumlaw04.awake -/
namespace Go.Abs
open Go
set_option linter.unusedVariables false
def f383.s0:ByteArray:=⟨#[98]⟩
def f383.s1:ByteArray:=⟨#[49]⟩
def f383.s2:ByteArray:=⟨#[97]⟩
def f383.s3:ByteArray:=⟨#[50]⟩
def f383.s4:ByteArray:=⟨#[103,112,117,45,49]⟩
def f383.kills (a:Unit):List Hint:=[]
def f383.cuts (a:Unit):List (Nat×Σ β:Type,β→Tm):=[]
def f383.af (a:Unit):AF:=AF.mk (.seq (.region [⟨(some 0),0,.move,[.c (.bool false)],none⟩])
 (.seq (.region [⟨(some 2),1,(.build [.str ByteArray.empty,.str ByteArray.empty] [(0,1),(1,1)]),[.c (.str f383.s0),.c (.str f383.s1)],none⟩,
 ⟨(some 3),2,(.build [.str ByteArray.empty,.str ByteArray.empty] [(0,1),(1,1)]),[.c (.str f383.s2),.c (.str f383.s3)],none⟩,
 oT 4 3 (.buildSlice 2 2 [.str ByteArray.empty,.str ByteArray.empty] [(0,2),(2,2)]) [2,3],
 oT 5 4 (.call false 385) [4],
 oT 1 8 .move [5]])
 (.seq (.region [⟨(some 6),9,(.call false 48),[.c (.str f383.s4)],none⟩,
 oT 7 13 .move [6],
 oG 8 14 .move [1] 7 true,
 oG 9 15 (.len false) [8] 7 true,
 ⟨(some 10),16,(.bin .eql),[.t 9,.c (.int .i64 (2))],(some (7,true))⟩,
 ⟨(some 11),17,.pick,[.t 7,.t 10,.c (.bool false)],none⟩,
 oT 12 18 .move [11],
 oG 13 19 .move [1] 12 true,
 ⟨(some 14),20,(.indexAddr 2 none),[.t 13,.c (.int .i64 (0))],(some (12,true))⟩,
 oG 15 21 (.fieldAddr 0) [14] 12 true,
 oG 16 22 (.load false 1) [15] 12 true,
 ⟨(some 17),23,(.bin .eql),[.t 16,.c (.str f383.s2)],(some (12,true))⟩,
 ⟨(some 18),24,.pick,[.t 12,.t 17,.c (.bool false)],none⟩,
 oT 19 25 .move [18],
 oG 20 26 .move [1] 19 true,
 oG 21 27 (.call false 50) [20] 19 true,
 ⟨(some 22),31,.pick,[.t 19,.t 21,.c (.bool false)],none⟩,
 oT 0 32 .move [22]])
 (.ret))))
 [.tmp 0] 0 23
def f383.env:Env:=[(385,f385.C),(48,f48.C),(50,f50.C)]
def f383.tree (a:Unit):Prop:=∃ c1:List (aA),SlQ 2 c1.length (fun j=>List.take 2 (List.drop (j * 2) [.str f383.s0,.str f383.s1,.str f383.s2,.str f383.s3])) (gl aC c1) ((L20 c1)∧∃ c2:ByteArray,(f383.s4=c2)∧(fX c2)∧Br (dB c2) (Br (((bB c1).length:Int)==(2:Int)) (Br (decide ((0:Int)≤(0:Int))&&decide ((0:Int) < ((bB c1).length:Int))) (Br (((at_ (bB c1) (0:Int)).1).toList==f383.s2.toList) (f50.ent (fun c10=>(i5 c10)∧((cN c10)=(bJ a))∧True) (bB c1)) ((false=(bJ a))∧True)) False) ((false=(bJ a))∧True)) ((false=(bJ a))∧True))
def f383.vc (a:Unit):Prop:=(L20 ([(f383.s0,f383.s1),(f383.s2,f383.s3)])∧(fX f383.s4∧(((dB (f383.s4))=true→((((bB ([(f383.s0,f383.s1),(f383.s2,f383.s3)])).length:Int)=(2:Int)→((0:Int) < ((bB ([(f383.s0,f383.s1),(f383.s2,f383.s3)])).length:Int)∧((((at_ (bB ([(f383.s0,f383.s1),(f383.s2,f383.s3)])) (0:Int)).1)=f383.s2→(i5 (bB ([(f383.s0,f383.s1),(f383.s2,f383.s3)]))∧((cN (bB ([(f383.s0,f383.s1),(f383.s2,f383.s3)])))=bJ a)))∧(¬(((at_ (bB ([(f383.s0,f383.s1),(f383.s2,f383.s3)])) (0:Int)).1)=f383.s2)→(false=bJ a)))))∧(¬(((bB ([(f383.s0,f383.s1),(f383.s2,f383.s3)])).length:Int)=(2:Int))→(false=bJ a))))∧(¬((dB (f383.s4))=true)→(false=bJ a)))))
set_option maxRecDepth 100000 in
set_option maxHeartbeats 2000000 in
theorem f383.of (a:Unit) (h:f383.vc a):f383.tree a:=⟨[(f383.s0,f383.s1),(f383.s2,f383.s3)],slQ (Rds.row (enc:=aC) ⟨rfl,fun i hi=>by repeat (first | rfl | exact absurd hi (Nat.not_lt.2 (Nat.le_add_left 2 _)) | (cases i with | zero=>rfl | succ i=>?_))⟩) (⟨h.1,⟨f383.s4,⟨rfl,⟨h.2.1,br h.2.2 Cnd.b (fun h3 k21=>br k21 Cnd.eq (fun h5 k18=>chk k18.2 Cnd.ix ⟨(by decide),k18.1⟩ (fun h7 k16=>br k16 Cnd.seq (fun h8 k14=>(f50.ei ⟨k14.1,⟨k14.2,trivial⟩⟩)) (fun h9 k15=>⟨k15,trivial⟩))) (fun h6 k19=>⟨k19,trivial⟩)) (fun h4 k22=>⟨k22,trivial⟩)⟩⟩⟩⟩)⟩
theorem f383.eq (a:Unit):(f383.af a).gives f383.env (f383.args a) (f383.blks a) (f383.res a) (f383.blks' a)=f383.tree a:=by kernel_rfl
end Go.Abs

-- interregnum/interregnumlaw04.IdentNames
namespace Go.Abs
open Go
end Go.Abs

/- interregnum/interregnumlaw04.IdentNames -/
namespace Go.Abs
open Go
set_option linter.unusedVariables false
end Go.Abs

-- interregnum/interregnumlaw04.IdentBuilds
namespace Go.Abs
open Go
end Go.Abs

/- interregnum/interregnumlaw04.IdentBuilds -/
namespace Go.Abs
open Go
set_option linter.unusedVariables false
end Go.Abs

-- interregnum/interregnumlaw04.IdentSorted
namespace Go.Abs
open Go
end Go.Abs

/- interregnum/interregnumlaw04.IdentSorted -/
namespace Go.Abs
open Go
set_option linter.unusedVariables false
end Go.Abs

-- interregnum/interregnumlaw04.IdentLabels
namespace Go.Abs
open Go
def f379.wf (a:(List (aA))×(List (aA))×ByteArray):Prop:=bM.ok a.1∧bM.ok a.2.1∧gZ.ok a.2.2
def f379.size (a:(List (aA))×(List (aA))×ByteArray):Nat:=bM.size a.1+(bM.size a.2.1+(gZ.size a.2.2))
def f379.lpre (a:(List (aA))×(List (aA))×ByteArray):Prop:=f379.wf a∧f379.size a≤1048576
def f379.args (a:(List (aA))×(List (aA))×ByteArray):List D:=[.slice .ro 2 a.1.length (gl aC a.1),.slice .ro 2 a.2.1.length (gl aC a.2.1),.str a.2.2]
def f379.blks (a:(List (aA))×(List (aA))×ByteArray):List (List D):=[]
def f379.res (a:(List (aA))×(List (aA))×ByteArray):List D:=[.bool (bJ a)]
def f379.blks' (a:(List (aA))×(List (aA))×ByteArray):List (List D):=[]
def f379.C:aK:=FnC f379.args f379.blks (fun a=>f379.lpre a) f379.res f379.blks'
end Go.Abs

/- interregnum/interregnumlaw04.IdentLabels -/
namespace Go.Abs
open Go
set_option linter.unusedVariables false
def f379.kills (a:(List (aA))×(List (aA))×ByteArray):List Hint:=[]
def f379.cuts (a:(List (aA))×(List (aA))×ByteArray):List (Nat×Σ β:Type,β→Tm):=[]
def f379.af (a:(List (aA))×(List (aA))×ByteArray):AF:=AF.mk (.seq (.region [⟨(some 6),0,.move,[.c (.bool false)],none⟩])
 (.seq (.seq (.region [oT 11 1 (.call false 383) [],
 oT 12 5 (.un .not) [11],
 oT 13 6 .move [12],
 oG 14 7 .move [0] 13 false,
 oG 15 8 (.call false 384) [14] 13 false,
 oG 16 12 (.un .not) [15] 13 false,
 ⟨(some 17),13,.pick,[.t 13,.c (.bool true),.t 16],none⟩,
 oT 18 14 .move [17],
 oG 19 15 .move [1] 18 false,
 oG 20 16 (.call false 384) [19] 18 false,
 oG 21 20 (.un .not) [20] 18 false,
 ⟨(some 22),21,.pick,[.t 18,.c (.bool true),.t 21],none⟩])
 (.cond (.t 22) (.seq (.region [oT 23 22 (.call false 383) [],
 oT 6 26 .move [23]])
 (.ret)) (.skip)))
 (.seq (.region [oT 25 27 .move [0],
 oT 26 28 .move [2],
 oT 27 29 (.call false 387) [25,26],
 oT 24 33 .move [27],
 oT 28 34 (.extract 0) [24],
 oT 29 35 (.extract 1) [24],
 oT 7 36 .move [28],
 oT 8 37 .move [29]])
 (.seq (.region [oT 31 38 .move [0],
 oT 32 39 .move [2],
 oT 33 40 (.call false 390) [31,32],
 oT 30 44 .move [33],
 oT 34 45 (.extract 0) [30],
 oT 35 46 (.extract 1) [30],
 oT 9 47 .move [34],
 oT 10 48 .move [35]])
 (.seq (.region [oT 36 49 .move [0],
 oT 37 50 .move [1],
 oT 38 51 (.call false 124) [36,37],
 oT 39 55 .move [0],
 oT 40 56 .move [1],
 oT 41 57 (.call false 360) [39,40],
 oT 42 61 (.binB false) [38,41],
 oT 43 62 .move [42],
 oG 44 63 .move [7] 43 true,
 oG 45 64 .move [9] 43 true,
 oG 46 65 (.bin .eql) [44,45] 43 true,
 ⟨(some 47),66,.pick,[.t 43,.t 46,.c (.bool false)],none⟩,
 oT 48 67 .move [47],
 oG 49 68 .move [8] 48 true,
 oG 50 69 .move [10] 48 true,
 oG 51 70 (.binB false) [49,50] 48 true,
 ⟨(some 52),71,.pick,[.t 48,.t 51,.c (.bool false)],none⟩,
 oT 53 72 .move [52],
 oG 54 73 .move [0] 53 true,
 oG 55 74 (.call false 385) [54] 53 true,
 oG 56 78 .move [0] 53 true,
 oG 57 79 (.call false 386) [56] 53 true,
 oG 58 83 (.call false 322) [55,57] 53 true,
 ⟨(some 59),87,.pick,[.t 53,.t 58,.c (.bool false)],none⟩,
 oT 6 88 .move [59]])
 (.ret))))))
 [.tmp 6] 0 57
def f379.env:Env:=[(383,f383.C),(384,f384.C),(387,f387.C),(390,f390.C),(124,f124.C),(360,f360.C),(385,f385.C),(386,f386.C),(322,f322.C)]
def f379.tree (a:(List (aA))×(List (aA))×ByteArray):Prop:=∃ c1:Unit,True∧Br (!(bJ c1)) (∃ c4:Unit,True∧((bJ c4)=(bJ a))∧True) (f384.ent (fun c7=>(hU c7)∧Br (!(lH c7)) (∃ c10:Unit,True∧((bJ c10)=(bJ a))∧True) (f384.ent (fun c13=>(hU c13)∧Br (!(lH c13)) (∃ c16:Unit,True∧((bJ c16)=(bJ a))∧True) (f387.ent (fun c19=>(mY c19)∧f390.ent (fun c20=>(mY c20)∧f124.ent (fun c21=>(iI c21)∧f360.ent (fun c22=>(iI c22)∧Br ((dW c21)==(dW c22)) (Br (((b7 c19).1).toList==((b7 c20).1).toList) (Br (((b7 c19).2)==((b7 c20).2)) (f385.ent (fun c29=>(L20 c29)∧f386.ent (fun c30=>(L20 c30)∧f322.ent (fun c31=>(aCW c31)∧((dC c31)=(bJ a))∧True) ((bB c29),(bB c30))) a.1) a.1) ((false=(bJ a))∧True)) ((false=(bJ a))∧True)) ((false=(bJ a))∧True)) (a.1,a.2.1)) (a.1,a.2.1)) (a.1,a.2.2)) (a.1,a.2.2))) a.2.1)) a.1)
def f379.vc (a:(List (aA))×(List (aA))×ByteArray):Prop:=((¬((bJ ())=true)→((bJ ())=bJ a))∧(¬(¬((bJ ())=true))→(hU a.1∧((¬((lH (a.1))=true)→((bJ ())=bJ a))∧(¬(¬((lH (a.1))=true))→(hU a.2.1∧((¬((lH (a.2.1))=true)→((bJ ())=bJ a))∧(¬(¬((lH (a.2.1))=true))→(mY (a.1,a.2.2)∧(mY (a.1,a.2.2)∧(iI (a.1,a.2.1)∧(iI (a.1,a.2.1)∧((((dW (a.1,a.2.1))==(dW (a.1,a.2.1)))=true→((((b7 (a.1,a.2.2)).1)=((b7 (a.1,a.2.2)).1)→(((((b7 (a.1,a.2.2)).2)==((b7 (a.1,a.2.2)).2))=true→(L20 a.1∧(L20 a.1∧(aCW ((bB (a.1)),(bB (a.1)))∧((dC ((bB (a.1)),(bB (a.1))))=bJ a)))))∧(¬((((b7 (a.1,a.2.2)).2)==((b7 (a.1,a.2.2)).2))=true)→(false=bJ a))))∧(¬(((b7 (a.1,a.2.2)).1)=((b7 (a.1,a.2.2)).1))→(false=bJ a))))∧(¬(((dW (a.1,a.2.1))==(dW (a.1,a.2.1)))=true)→(false=bJ a)))))))))))))))
set_option maxRecDepth 100000 in
set_option maxHeartbeats 2000000 in
theorem f379.of (a:(List (aA))×(List (aA))×ByteArray) (h:f379.vc a):f379.tree a:=⟨(),⟨trivial,br h (Cnd.not Cnd.b) (fun h2 k55=>⟨(),⟨trivial,⟨k55,trivial⟩⟩⟩) (fun h3 k56=>(f384.ei ⟨k56.1,br k56.2 (Cnd.not Cnd.b) (fun h8 k52=>⟨(),⟨trivial,⟨k52,trivial⟩⟩⟩) (fun h9 k53=>(f384.ei ⟨k53.1,br k53.2 (Cnd.not Cnd.b) (fun h14 k49=>⟨(),⟨trivial,⟨k49,trivial⟩⟩⟩) (fun h15 k50=>(f387.ei ⟨k50.1,(f390.ei ⟨k50.2.1,(f124.ei ⟨k50.2.2.1,(f360.ei ⟨k50.2.2.2.1,br k50.2.2.2.2 Cnd.b (fun h23 k43=>br k43 Cnd.seq (fun h25 k40=>br k40 Cnd.b (fun h27 k37=>(f385.ei ⟨k37.1,(f386.ei ⟨k37.2.1,(f322.ei ⟨k37.2.2.1,⟨k37.2.2.2,trivial⟩⟩)⟩)⟩)) (fun h28 k38=>⟨k38,trivial⟩)) (fun h26 k41=>⟨k41,trivial⟩)) (fun h24 k44=>⟨k44,trivial⟩)⟩)⟩)⟩)⟩))⟩))⟩))⟩⟩
theorem f379.eq (a:(List (aA))×(List (aA))×ByteArray):(f379.af a).gives f379.env (f379.args a) (f379.blks a) (f379.res a) (f379.blks' a)=f379.tree a:=by kernel_rfl
end Go.Abs

-- interregnum/interregnumlaw04.IdentHas
namespace Go.Abs
open Go
end Go.Abs

/- interregnum/interregnumlaw04.IdentHas -/
namespace Go.Abs
open Go
set_option linter.unusedVariables false
end Go.Abs

/- The laws of layer 4. -/
namespace Go.Abs
open Go

theorem f383.ok (a:Unit) (_:True):f383.vc a:=by
 have e:bB [(f383.s0,f383.s1),(f383.s2,f383.s3)]=[(f383.s2,f383.s3),(f383.s0,f383.s1)]:=by decide +kernel
 have e1:dB f383.s4=true:=by decide +kernel
 have e2:cN [(f383.s2,f383.s3),(f383.s0,f383.s1)]=true:=by decide +kernel
 unfold f383.vc
 rw [e,e1,e2]
 refine ⟨Nat.le_of_ble_eq_true rfl,Nat.le_of_ble_eq_true rfl,fun _=>⟨fun _=>⟨(by decide),fun _=>⟨fun x hx=>?_,rfl⟩,fun c=>absurd rfl c⟩,fun c=>absurd rfl c⟩,fun c=>absurd rfl c⟩
 rcases List.mem_cons.1 hx with rfl | hx
 ·exact ⟨Nat.le_of_ble_eq_true rfl,Nat.le_of_ble_eq_true rfl⟩
 ·rw [List.mem_singleton.1 hx]
  exact ⟨Nat.le_of_ble_eq_true rfl,Nat.le_of_ble_eq_true rfl⟩

theorem qV {l:List a8} (h:bM.size l≤1048576):hU l∧i5 l∧L20 l:=by
 refine ⟨⟨qZ h,fun x hx=>?_⟩,wU h,qZ h⟩
 have h1:cI.size x≤(l.map cI.size).sum:=aC8 _ hx
 have h2:(l.map cI.size).sum+1≤1048576:=h
 have h3:x.1.size+1+(x.2.size+1)+1=cI.size x:=rfl
 omega
theorem wG {l:List a8} (h:L20 l):L20 (bB l):=Nat.le_trans (qO l) h
theorem aDO (l:List a8):dC (l,l)=true:=decide_eq_true rfl

theorem f379.ok (a:List a8×List a8×ByteArray) (h:f379.lpre a):f379.vc a:=by
 obtain ⟨_,hs⟩:=h
 obtain ⟨l,m,k⟩:=a
 have hs:bM.size l+(bM.size m+(k.size+1))≤1048576:=hs
 obtain ⟨h1,h2,h3⟩:=qV (l:=l) (by omega)
 obtain ⟨k1,k2,k3⟩:=qV (l:=m) (by omega)
 exact ⟨fun _=>rfl,fun _=>⟨h1,fun _=>rfl,fun _=>⟨k1,fun _=>rfl,fun _=>⟨h3,h3,⟨h3,k3⟩,⟨h3,k3⟩,fun _=>⟨fun _=>⟨fun _=>⟨h3,h3,⟨wG h3,wG h3⟩,aDO _⟩,fun c=>absurd (beq_self_eq_true _) c⟩,fun c=>absurd rfl c⟩,fun c=>absurd (beq_self_eq_true _) c⟩⟩⟩⟩

end Go.Abs
