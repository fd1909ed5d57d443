/- Functions, and what the code asks of them: PWheelLaw. -/
import Derived.KernelRfl
import Derived.Test.YtfjnkkfhhalepaaWheelNilP4
import Derived.Test.YtfjnkkfhhalepaaWheelNilP5
import Derived.Test.YtfjnkkfhhalepaaWheelNilP6
import Derived.Test.YtfjnkkfhhalepaaWheelNilP7
import Derived.Test.YtfjnkkfhhalepaaWheelNilP8
import Derived.Test.YtfjnkkfhhalepaaWheelNilP9
import Derived.Test.YtfjnkkfhhalepaaWheelNilP10
import Derived.Test.YtfjnkkfhhalepaaWheelNilP11
import Derived.Test.YtfjnkkfhhalepaaWheelNilP12
import Derived.Test.YtfjnkkfhhalepaaWheelNilP15
import Derived.Test.YtfjnkkfhhalepaaWheelNilP16
import Derived.Test.YtfjnkkfhhalepaaWheelNilP17
import Derived.Test.YtfjnkkfhhalepaaWheelNilP18
import Derived.Test.YtfjnkkfhhalepaaWheelNilP20
import Derived.Test.YtfjnkkfhhalepaaWheelNilP21
import Derived.Test.YtfjnkkfhhalepaaWheelNilP22
import Derived.Test.YtfjnkkfhhalepaaWheelNilP23
set_option maxRecDepth 100000
set_option maxHeartbeats 4000000
set_option linter.unusedVariables false
set_option linter.unusedSimpArgs false
set_option linter.unusedSectionVars false
-- interregnum/interregnumlaw19.awake
namespace Go.Abs
open Go
def f293.args (a:Unit):List D:=[]
def f293.blks (a:Unit):List (List D):=[]
def f293.res (a:Unit):List D:=[.bool (cA a)]
def f293.blks' (a:Unit):List (List D):=[]
def f293.C:aN:=FnC f293.args f293.blks (fun _=>True) f293.res f293.blks'
set_option linter.unusedVariables false
def f293.s0:ByteArray:=⟨#[97]⟩
def f293.kills (a:Unit):List Hint:=[]
def f293.cuts (a:Unit):List (Nat×Σ β:Type,β→Tm):=[(3001001000001,⟨Unit,fun x=>⟨[],[],[]⟩⟩)]
def f293.af (a:Unit):AF:=AF.mk (.seq (.region [⟨(some 0),0,.move,[.c (.bool false)],none⟩])
 (.seq (.region [oT 3 1 (.call false 295) [],
 mT 1 5 3])
 (.seq (.toObj 0 1 1) (.seq (.seq (.region [mT 4 6 1,
 oT 5 7 (.isNil true false) [4]])
 (.cond (.t 5) (.seq (.region [⟨(some 0),8,.move,[.c (.bool false)],none⟩])
 (.ret)) (.skip)))
 (.seq (.region [mT 6 9 1,
 ⟨(some 7),10,(.call true 296),[.t 6,.c (.str f293.s0),.c (.int .i64 (3))],none⟩])
 (.seq (.region [mT 8 14 1,
 ⟨(some 9),15,(.call true 302),[.t 8,.c (.int .i64 (4))],none⟩,
 mT 2 19 9])
 (.seq (.region [mT 10 20 2,
 oT 11 21 (.len false) [10],
 ⟨(some 12),22,(.bin .eql),[.t 11,.c (.int .i64 (1))],none⟩,
 mT 13 23 12,
 oG 14 24 .move [2] 13 true,
 ⟨(some 15),25,(.indexAddr 1 none),[.t 14,.c (.int .i64 (0))],(some (13,true))⟩,
 oG 16 26 (.load false 1) [15] 13 true,
 ⟨(some 17),27,(.bin .eql),[.t 16,.c (.str f293.s0)],(some (13,true))⟩,
 ⟨(some 18),28,.pick,[.t 13,.t 17,.c (.bool false)],none⟩,
 mT 19 29 18,
 oG 20 30 .move [1] 19 true,
 oG 21 31 (.call true 304) [20] 19 true,
 ⟨(some 22),35,(.bin .eql),[.t 21,.c (.int .i64 (0))],(some (19,true))⟩,
 ⟨(some 23),36,.pick,[.t 19,.t 22,.c (.bool false)],none⟩,
 mT 0 37 23])
 (.ret))))))))
 [.tmp 0] 0 24
def f293.env:Env:=[(295,f295.C),(296,f296.C),(302,f302.C),(304,f304.C)]
def f293.tree (a:Unit):Prop:=∃ c1:Unit,True∧∃ c2:(Ob Int)×ByteArray×Int,(f293.s0=c2.2.1)∧((3:Int)=c2.2.2)∧ObQ 0 0 (ob0 Int).nl c2.1.nl (ob0 Int).n c2.1.n (ob0 Int).ks c2.1.ks (fun _ _=>[]) (ovs aO c2.1) (True∧∃ c3:(Ob Int)×Int,((4:Int)=c3.2)∧ObQ 0 0 (setW c2).nl c3.1.nl (setW c2).n c3.1.n (setW c2).ks c3.1.ks (ovs aO (setW c2)) (ovs aO c3.1) ((nG c3)∧Br ((((fU c3).1).length:Int)==(1:Int)) (Br (decide ((0:Int)≤(0:Int))&&decide ((0:Int) < (((fU c3).1).length:Int))) (Br ((at_ ((fU c3).1) (0:Int)).toList==f293.s0.toList) (∃ c9:Ob Int,ObQ 0 0 ((fU c3).2).nl c9.nl ((fU c3).2).n c9.n ((fU c3).2).ks c9.ks (ovs aO ((fU c3).2)) (ovs aO c9) (True∧((((iT c9).1)==(0:Int))=(cA a))∧True)) ((false=(cA a))∧True)) False) ((false=(cA a))∧True)))
def f293.vc (a:Unit):Prop:=(nG ((setW (ob0 Int,f293.s0,(3:Int))),(4:Int))∧(((((fU ((setW (ob0 Int,f293.s0,(3:Int))),(4:Int))).1).length:Int)=(1:Int)→((0:Int) < (((fU ((setW (ob0 Int,f293.s0,(3:Int))),(4:Int))).1).length:Int)∧(((at_ ((fU ((setW (ob0 Int,f293.s0,(3:Int))),(4:Int))).1) (0:Int))=f293.s0→((((iT ((fU ((setW (ob0 Int,f293.s0,(3:Int))),(4:Int))).2)).1)==(0:Int))=cA a))∧(¬((at_ ((fU ((setW (ob0 Int,f293.s0,(3:Int))),(4:Int))).1) (0:Int))=f293.s0)→(false=cA a)))))∧(¬((((fU ((setW (ob0 Int,f293.s0,(3:Int))),(4:Int))).1).length:Int)=(1:Int))→(false=cA a))))
theorem f293.of (a:Unit) (h:f293.vc a):f293.tree a:=⟨(),⟨trivial,⟨(ob0 Int,f293.s0,(3:Int)),⟨rfl,⟨rfl,obQ rfl (OV.zero (e:=aO)) rfl (⟨trivial,⟨((setW (ob0 Int,f293.s0,(3:Int))),(4:Int)),⟨rfl,obQ rfl (OV.self (e:=aO)) rfl (⟨h.1,br h.2 Cnd.eq (fun h4 k17=>chk k17.2 Cnd.ix ⟨(by decide),k17.1⟩ (fun h6 k15=>br k15 Cnd.seq (fun h7 k13=>⟨(fU ((setW (ob0 Int,f293.s0,(3:Int))),(4:Int))).2,obQ rfl (OV.self (e:=aO)) rfl (⟨trivial,⟨k13,trivial⟩⟩)⟩) (fun h8 k14=>⟨k14,trivial⟩))) (fun h5 k18=>⟨k18,trivial⟩)⟩)⟩⟩⟩)⟩⟩⟩⟩⟩
theorem f293.eq (a:Unit):(f293.af a).gives f293.env (f293.args a) (f293.blks a) (f293.res a) (f293.blks' a)=f293.tree a:=by kernel_rfl
def f272.wf (a:aE):Prop:=dL.ok a
def f272.size (a:aE):Nat:=dL.size a
def f272.lpre (a:aE):Prop:=f272.wf a∧f272.size a≤1048576
def f272.args (a:aE):List D:=[.agg [.int .i64 a.1,.int .i64 a.2.1,.str a.2.2]]
def f272.blks (a:aE):List (List D):=[]
def f272.res (a:aE):List D:=[.bool (cA a)]
def f272.blks' (a:aE):List (List D):=[]
def f272.C:aN:=FnC f272.args f272.blks (fun a=>f272.lpre a) f272.res f272.blks'
def f272.kills (a:aE):List Hint:=[]
def f272.cuts (a:aE):List (Nat×Σ β:Type,β→Tm):=[]
def f272.af (a:aE):AF:=AF.mk (.seq (.region [oT 1 0 .box [0],
 ⟨(some 2),1,.move,[.c (.bool false)],none⟩])
 (.seq (.seq (.region [oT 6 2 (.call false 293) [],
 oT 7 6 (.un .not) [6],
 mT 8 7 7,
 oG 9 8 (.load true 3) [1] 8 false,
 oG 10 9 (.buildSlice 3 1 [.int .i64 (0),.int .i64 (0),.str ByteArray.empty] [(0,3)]) [9] 8 false,
 oG 11 10 (.call false 294) [10] 8 false,
 oG 12 14 (.un .not) [11] 8 false,
 ⟨(some 13),15,.pick,[.t 8,.c (.bool true),.t 12],none⟩])
 (.cond (.t 13) (.seq (.region [oT 14 16 (.call false 293) [],
 mT 2 20 14])
 (.ret)) (.skip)))
 (.seq (.region [⟨(some 3),21,.move,[.c (.nilp)],none⟩])
 (.seq (.region [mT 15 22 3,
 oT 16 23 (.fieldAddr 2) [1],
 oT 17 24 (.load false 1) [16],
 oT 18 25 (.fieldAddr 1) [1],
 oT 19 26 (.load false 1) [18],
 oT 20 27 (.call true 296) [15,17,19]])
 (.seq (.region [mT 22 31 3,
 oT 23 32 (.fieldAddr 2) [1],
 oT 24 33 (.load false 1) [23],
 oT 25 34 (.call true 300) [22,24],
 mT 21 38 25,
 oT 26 39 (.extract 0) [21],
 oT 27 40 (.extract 1) [21],
 mT 4 41 26,
 mT 5 42 27])
 (.seq (.region [mT 28 43 5,
 oT 29 44 (.un .not) [28],
 mT 30 45 29,
 oG 31 46 .move [3] 30 true,
 oG 32 47 (.fieldAddr 2) [1] 30 true,
 oG 33 48 (.load false 1) [32] 30 true,
 oG 34 49 (.call true 298) [31,33] 30 true,
 oG 35 53 (.un .not) [34] 30 true,
 ⟨(some 36),54,.pick,[.t 30,.t 35,.c (.bool false)],none⟩,
 mT 37 55 36,
 oG 38 56 .move [3] 37 true,
 oG 39 57 (.call true 304) [38] 37 true,
 ⟨(some 40),61,(.bin .eql),[.t 39,.c (.int .i64 (0))],(some (37,true))⟩,
 ⟨(some 41),62,.pick,[.t 37,.t 40,.c (.bool false)],none⟩,
 mT 42 63 41,
 oG 43 64 .move [3] 42 true,
 oG 44 65 (.fieldAddr 1) [1] 42 true,
 oG 45 66 (.load false 1) [44] 42 true,
 oG 46 67 (.call true 302) [43,45] 42 true,
 oG 47 71 (.len false) [46] 42 true,
 ⟨(some 48),72,(.bin .eql),[.t 47,.c (.int .i64 (0))],(some (42,true))⟩,
 ⟨(some 49),73,.pick,[.t 42,.t 48,.c (.bool false)],none⟩,
 mT 2 74 49])
 (.ret)))))))
 [.tmp 2] 0 49
def f272.env:Env:=[(293,f293.C),(294,f294.C),(296,f1296.C),(300,f1300.C),(298,f1298.C),(304,f1304.C),(302,f1302.C)]
def f272.tree (a:aE):Prop:=∃ c1:Unit,True∧Br (!(cA c1)) (∃ c4:Unit,True∧((cA c4)=(cA a))∧True) (∃ c7:List (aE),SlQ 1 c7.length (fun _=>[.int .i64 a.1,.int .i64 a.2.1,.str a.2.2]) (gl cF c7) ((L20 c7)∧Br (!(jK c7)) (∃ c10:Unit,True∧((cA c10)=(cA a))∧True) (∃ c13:ByteArray×Int,(a.2.2=c13.1)∧(a.2.1=c13.2)∧True∧∃ c14:ByteArray,(a.2.2=c14)∧True∧Br (!((atN c14).2)) (∃ c17:ByteArray,(a.2.2=c17)∧True∧Br (!(aGU c17)) (∃ c20:Unit,True∧Br ((aGA c20)==(0:Int)) (∃ c23:Int,(a.2.1=c23)∧True∧((((aEB c23).length:Int)==(0:Int))=(cA a))∧True) ((false=(cA a))∧True)) ((false=(cA a))∧True)) ((false=(cA a))∧True))))
def f272.vc (a:aE):Prop:=((¬((cA ())=true)→((cA ())=cA a))∧(¬(¬((cA ())=true))→(L20 ([a])∧((¬((jK ([a]))=true)→((cA ())=cA a))∧(¬(¬((jK ([a]))=true))→((¬(((atN (a.2.2)).2)=true)→((¬((aGU (a.2.2))=true)→(((aGA ())=(0:Int)→((((aEB (a.2.1)).length:Int)==(0:Int))=cA a))∧(¬((aGA ())=(0:Int))→(false=cA a))))∧(¬(¬((aGU (a.2.2))=true))→(false=cA a))))∧(¬(¬(((atN (a.2.2)).2)=true))→(false=cA a))))))))
theorem f272.of (a:aE) (h:f272.vc a):f272.tree a:=⟨(),⟨trivial,br h (Cnd.not Cnd.b) (fun h2 k42=>⟨(),⟨trivial,⟨k42,trivial⟩⟩⟩) (fun h3 k43=>⟨[a],slQ (Rds.one (enc:=cF) (DEqs.refl _)) (⟨k43.1,br k43.2 (Cnd.not Cnd.b) (fun h8 k39=>⟨(),⟨trivial,⟨k39,trivial⟩⟩⟩) (fun h9 k40=>⟨(a.2.2,a.2.1),⟨rfl,⟨rfl,⟨trivial,⟨a.2.2,⟨rfl,⟨trivial,br k40 (Cnd.not Cnd.b) (fun h15 k35=>⟨a.2.2,⟨rfl,⟨trivial,br k35 (Cnd.not Cnd.b) (fun h18 k31=>⟨(),⟨trivial,br k31 Cnd.eq (fun h21 k27=>⟨a.2.1,⟨rfl,⟨trivial,⟨k27,trivial⟩⟩⟩⟩) (fun h22 k28=>⟨k28,trivial⟩)⟩⟩) (fun h19 k32=>⟨k32,trivial⟩)⟩⟩⟩) (fun h16 k36=>⟨k36,trivial⟩)⟩⟩⟩⟩⟩⟩⟩)⟩)⟩)⟩⟩
theorem f272.eq (a:aE):(f272.af a).gives f272.env (f272.args a) (f272.blks a) (f272.res a) (f272.blks' a)=f272.tree a:=by kernel_rfl
def aLC (l:List (ByteArray×Int)) (now:Int):List (ByteArray×Int):=l.filter fun x=>decide (¬x.2 < now)
theorem aBG {l:List (ByteArray×Int)} {now:Int} {k:ByteArray}:k∈aD0 l now↔∃ t,(k,t)∈l∧t < now:=by
 unfold aD0
 rw [List.mem_map]
 constructor
 ·rintro ⟨⟨k',t⟩,h,rfl⟩
  obtain ⟨h1,h2⟩:=List.mem_filter.1 h
  exact ⟨t,h1,of_decide_eq_true h2⟩
 ·rintro ⟨t,h1,h2⟩
  exact ⟨(k,t),List.mem_filter.2 ⟨h1,decide_eq_true h2⟩,rfl⟩
theorem aI7 {l:List (ByteArray×Int)} (h:Rising l) (now:Int):(aD0 l now).foldl sV l=aLC l now:=by
 rw [aFO]
 refine List.filter_congr fun x hx=>Bool.eq_iff_iff.2 ?_
 rw [List.all_eq_true,decide_eq_true_eq]
 constructor
 ·intro hh hlt
  have:=hh x.1 (aBG.2 ⟨x.2,hx,hlt⟩)
  simp at this
 ·intro hh k hk
  obtain ⟨t,h1,h2⟩:=aBG.1 hk
  refine decide_eq_true fun e=>hh ?_
  subst e
  rw [h.uniq (k:=x.1) (x:=x.2) (y:=t) hx h1]
  exact h2
theorem Rising.rest {l:List (ByteArray×Int)} (h:Rising l) (now:Int):Rising (aLC l now):=List.Pairwise.filter _ h
section
variable {o:Ob Int} {l:List (ByteArray×Int)}
theorem Rep.dueL_eq (r:Rep spW o l) (now:Int):pR o now=aD0 l now:=by
 unfold pR
 rw [r.sorted _ (by omega)]
 unfold aD0
 congr 1
 refine List.filter_congr fun x hx=>?_
 have hs:=xV x.2
 have hg:j3 o x.1 0=x.2:=by
  have:=r.get x.1 0
  rw [aDA r.ris (k:=x.1) (x:=x.2) hx] at this
  exact (Prod.mk.inj this).1
 rw [hg,decide_eq_true (show 1≤spW x.2∧spW x.2 < 1+16 by omega),Bool.and_true]
theorem Rep.due (r:Rep spW o l) (now:Int):(fU (o,now)).1=aD0 l now∧Rep spW (fU (o,now)).2 (aLC l now):=by
 refine ⟨r.dueL_eq now,?_⟩
 show Rep spW ((pR o now).foldl (fF spW) o) _
 rw [r.dueL_eq,← aI7 r.ris]
 exact Rep.foldTake aDL _ r
theorem Rep.duePre (r:Rep spW o l) (h:l.length≤1048576) (now:Int):nG (o,now):=Nat.le_trans (r.less _ (by omega)) h
theorem Rep.lenE (r:Rep spW o l):(iT o).1=(l.length:Int):=by
 show ((aF7 o 0 (o.nl 0):Nat):Int)=_
 rw [r.len]
theorem Rep.setW (r:Rep spW o l) (k:ByteArray) (t:Int):Rep spW (Abs.setW (o,k,t)) (aGS l k t):=r.put aDL k t
theorem Rep.delW (r:Rep spW o l) (k:ByteArray):(Abs.delW (o,k)).1=(aA8 l k 0).2∧Rep spW (Abs.delW (o,k)).2 (sV l k):=⟨(Prod.mk.inj (r.get k 0)).2,r.take aDL k⟩
theorem Rep.atW (r:Rep spW o l) (k:ByteArray):(Abs.atW (o,k)).1=(aA8 l k 0).1∧(Abs.atW (o,k)).2.1=(aA8 l k 0).2:=⟨(Prod.mk.inj (r.get k 0)).1,(Prod.mk.inj (r.get k 0)).2⟩
end
theorem f293.ok (a:Unit) (_:True):f293.vc a:=by
 have r:Rep spW (setW (ob0 Int,f293.s0,(3:Int))) [(f293.s0,3)]:=(Rep.zero (sp:=spW)).setW f293.s0 3
 have hd:=r.due 4
 have e:aD0 [(f293.s0,3)] 4=[f293.s0]:=rfl
 have e2:(iT (fU (setW (ob0 Int,f293.s0,(3:Int)),4)).2).1=0:=by
  rw [hd.2.lenE]
  rfl
 refine ⟨r.duePre (by decide) 4,?_,?_⟩
 ·rw [hd.1,e]
  intro _
  refine ⟨by decide,fun _=>?_,fun c=>absurd rfl c⟩
  rw [e2]
  rfl
 ·rw [hd.1,e]
  intro c
  exact absurd rfl c
theorem f272.ok (a:Int×Int×ByteArray) (_:f272.lpre a):f272.vc a:=by
 refine ⟨fun c=>absurd rfl c,fun _=>⟨by show [a].length≤1048576; simp,fun _=>rfl,fun _=>⟨fun _=>⟨fun _=>⟨fun _=>rfl,fun c=>absurd rfl c⟩,fun c=>absurd (fun hh=>by cases hh) c⟩,fun c=>absurd (fun hh=>by cases hh) c⟩⟩⟩
end Go.Abs
