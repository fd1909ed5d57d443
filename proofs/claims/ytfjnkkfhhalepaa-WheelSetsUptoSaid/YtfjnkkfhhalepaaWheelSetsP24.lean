/- Functions, and what the code asks of them: PWheelLaw. -/
import Derived.KernelRfl
import Derived.Test.YtfjnkkfhhalepaaWheelSetsP4
import Derived.Test.YtfjnkkfhhalepaaWheelSetsP5
import Derived.Test.YtfjnkkfhhalepaaWheelSetsP6
import Derived.Test.YtfjnkkfhhalepaaWheelSetsP7
import Derived.Test.YtfjnkkfhhalepaaWheelSetsP8
import Derived.Test.YtfjnkkfhhalepaaWheelSetsP9
import Derived.Test.YtfjnkkfhhalepaaWheelSetsP10
import Derived.Test.YtfjnkkfhhalepaaWheelSetsP11
import Derived.Test.YtfjnkkfhhalepaaWheelSetsP12
import Derived.Test.YtfjnkkfhhalepaaWheelSetsP15
import Derived.Test.YtfjnkkfhhalepaaWheelSetsP16
import Derived.Test.YtfjnkkfhhalepaaWheelSetsP17
import Derived.Test.YtfjnkkfhhalepaaWheelSetsP18
import Derived.Test.YtfjnkkfhhalepaaWheelSetsP20
import Derived.Test.YtfjnkkfhhalepaaWheelSetsP21
import Derived.Test.YtfjnkkfhhalepaaWheelSetsP22
import Derived.Test.YtfjnkkfhhalepaaWheelSetsP23
set_option maxRecDepth 100000
set_option maxHeartbeats 4000000
set_option linter.unusedVariables false
set_option linter.unusedSimpArgs false
set_option linter.unusedSectionVars false
-- interregnum/interregnumlaw19.awake
namespace Go.Abs
open Go
def f293.args (a:Unit):List D:=[]
def f293.blks (a:Unit):List (List D):=[]
def f293.res (a:Unit):List D:=[.bool (bG a)]
def f293.blks' (a:Unit):List (List D):=[]
def f293.C:aO:=FnC f293.args f293.blks (fun _=>True) f293.res f293.blks'
set_option linter.unusedVariables false
def f293.s0:ByteArray:=⟨#[97]⟩
def f293.kills (a:Unit):List Hint:=[]
def f293.cuts (a:Unit):List (Nat×Σ β:Type,β→Tm):=[(3001001000001,⟨Unit,fun x=>⟨[],[],[]⟩⟩)]
def f293.af (a:Unit):AF:=AF.mk (.seq (.region [⟨(some 0),0,.move,[.c (.bool false)],none⟩])
 (.seq (.region [oT 3 1 (.call false 295) [],
 mT 1 5 3])
 (.seq (.toObj 0 1 1) (.seq (.seq (.region [mT 4 6 1,
 oT 5 7 (.isNil true false) [4]])
 (.cond (.t 5) (.seq (.region [⟨(some 0),8,.move,[.c (.bool false)],none⟩])
 (.ret)) (.skip)))
 (.seq (.region [mT 6 9 1,
 ⟨(some 7),10,(.call true 296),[.t 6,.c (.str f293.s0),.c (.int .i64 (3))],none⟩])
 (.seq (.region [mT 8 14 1,
 ⟨(some 9),15,(.call true 302),[.t 8,.c (.int .i64 (4))],none⟩,
 mT 2 19 9])
 (.seq (.region [mT 10 20 2,
 oT 11 21 (.len false) [10],
 ⟨(some 12),22,(.bin .eql),[.t 11,.c (.int .i64 (1))],none⟩,
 mT 13 23 12,
 oG 14 24 .move [2] 13 true,
 ⟨(some 15),25,(.indexAddr 1 none),[.t 14,.c (.int .i64 (0))],(some (13,true))⟩,
 oG 16 26 (.load false 1) [15] 13 true,
 ⟨(some 17),27,(.bin .eql),[.t 16,.c (.str f293.s0)],(some (13,true))⟩,
 ⟨(some 18),28,.pick,[.t 13,.t 17,.c (.bool false)],none⟩,
 mT 19 29 18,
 oG 20 30 .move [1] 19 true,
 oG 21 31 (.call true 304) [20] 19 true,
 ⟨(some 22),35,(.bin .eql),[.t 21,.c (.int .i64 (0))],(some (19,true))⟩,
 ⟨(some 23),36,.pick,[.t 19,.t 22,.c (.bool false)],none⟩,
 mT 0 37 23])
 (.ret))))))))
 [.tmp 0] 0 24
def f293.env:Env:=[(295,f295.C),(296,f296.C),(302,f302.C),(304,f304.C)]
def f293.tree (a:Unit):Prop:=∃ c1:Unit,True∧∃ c2:(Ob Int)×ByteArray×Int,(f293.s0=c2.2.1)∧((3:Int)=c2.2.2)∧ObQ 0 0 (ob0 Int).nl c2.1.nl (ob0 Int).n c2.1.n (ob0 Int).ks c2.1.ks (fun _ _=>[]) (ovs aJ c2.1) (True∧∃ c3:(Ob Int)×Int,((4:Int)=c3.2)∧ObQ 0 0 (setW c2).nl c3.1.nl (setW c2).n c3.1.n (setW c2).ks c3.1.ks (ovs aJ (setW c2)) (ovs aJ c3.1) ((f9 c3)∧Br ((((dU c3).1).length:Int)==(1:Int)) (Br (decide ((0:Int)≤(0:Int))&&decide ((0:Int) < (((dU c3).1).length:Int))) (Br ((at_ ((dU c3).1) (0:Int)).toList==f293.s0.toList) (∃ c9:Ob Int,ObQ 0 0 ((dU c3).2).nl c9.nl ((dU c3).2).n c9.n ((dU c3).2).ks c9.ks (ovs aJ ((dU c3).2)) (ovs aJ c9) (True∧((((iX c9).1)==(0:Int))=(bG a))∧True)) ((false=(bG a))∧True)) False) ((false=(bG a))∧True)))
def f293.vc (a:Unit):Prop:=(f9 ((setW (ob0 Int,f293.s0,(3:Int))),(4:Int))∧(((((dU ((setW (ob0 Int,f293.s0,(3:Int))),(4:Int))).1).length:Int)=(1:Int)→((0:Int) < (((dU ((setW (ob0 Int,f293.s0,(3:Int))),(4:Int))).1).length:Int)∧(((at_ ((dU ((setW (ob0 Int,f293.s0,(3:Int))),(4:Int))).1) (0:Int))=f293.s0→((((iX ((dU ((setW (ob0 Int,f293.s0,(3:Int))),(4:Int))).2)).1)==(0:Int))=bG a))∧(¬((at_ ((dU ((setW (ob0 Int,f293.s0,(3:Int))),(4:Int))).1) (0:Int))=f293.s0)→(false=bG a)))))∧(¬((((dU ((setW (ob0 Int,f293.s0,(3:Int))),(4:Int))).1).length:Int)=(1:Int))→(false=bG a))))
theorem f293.of (a:Unit) (h:f293.vc a):f293.tree a:=⟨(),⟨trivial,⟨(ob0 Int,f293.s0,(3:Int)),⟨rfl,⟨rfl,obQ rfl (OV.zero (e:=aJ)) rfl (⟨trivial,⟨((setW (ob0 Int,f293.s0,(3:Int))),(4:Int)),⟨rfl,obQ rfl (OV.self (e:=aJ)) rfl (⟨h.1,br h.2 Cnd.eq (fun h4 k17=>chk k17.2 Cnd.ix ⟨(by decide),k17.1⟩ (fun h6 k15=>br k15 Cnd.seq (fun h7 k13=>⟨(dU ((setW (ob0 Int,f293.s0,(3:Int))),(4:Int))).2,obQ rfl (OV.self (e:=aJ)) rfl (⟨trivial,⟨k13,trivial⟩⟩)⟩) (fun h8 k14=>⟨k14,trivial⟩))) (fun h5 k18=>⟨k18,trivial⟩)⟩)⟩⟩⟩)⟩⟩⟩⟩⟩
theorem f293.eq (a:Unit):(f293.af a).gives f293.env (f293.args a) (f293.blks a) (f293.res a) (f293.blks' a)=f293.tree a:=by kernel_rfl
def vO (l:List (ByteArray×Int)) (now:Int):List (ByteArray×Int):=l.filter fun x=>decide (¬x.2 < now)
theorem qD {l:List (ByteArray×Int)} {now:Int} {k:ByteArray}:k∈l6 l now↔∃ t,(k,t)∈l∧t < now:=by
 unfold l6
 rw [List.mem_map]
 constructor
 ·rintro ⟨⟨k',t⟩,h,rfl⟩
  obtain ⟨h1,h2⟩:=List.mem_filter.1 h
  exact ⟨t,h1,of_decide_eq_true h2⟩
 ·rintro ⟨t,h1,h2⟩
  exact ⟨(k,t),List.mem_filter.2 ⟨h1,decide_eq_true h2⟩,rfl⟩
theorem aDI {l:List (ByteArray×Int)} {now:Int} {k:ByteArray} {t:Int}:(k,t)∈vO l now↔(k,t)∈l∧¬t < now:=by
 unfold vO
 rw [List.mem_filter,decide_eq_true_eq]
theorem aI0 {l:List (ByteArray×Int)} (h:Rising l) (now:Int):(l6 l now).foldl iG l=vO l now:=by
 rw [aFY]
 refine List.filter_congr fun x hx=>Bool.eq_iff_iff.2 ?_
 rw [List.all_eq_true,decide_eq_true_eq]
 constructor
 ·intro hh hlt
  have:=hh x.1 (qD.2 ⟨x.2,hx,hlt⟩)
  simp at this
 ·intro hh k hk
  obtain ⟨t,h1,h2⟩:=qD.1 hk
  refine decide_eq_true fun e=>hh ?_
  subst e
  rw [h.uniq (k:=x.1) (x:=x.2) (y:=t) hx h1]
  exact h2
theorem Rising.rest {l:List (ByteArray×Int)} (h:Rising l) (now:Int):Rising (vO l now):=List.Pairwise.filter _ h
theorem aKG (l:List (ByteArray×Int)) (now:Int):(vO l now).length≤l.length:=List.length_filter_le _ _
section
variable {o:Ob Int} {l:List (ByteArray×Int)}
theorem Rep.dueL_eq (r:Rep spW o l) (now:Int):q9 o now=l6 l now:=by
 unfold q9
 rw [r.sorted _ (by omega)]
 unfold l6
 congr 1
 refine List.filter_congr fun x hx=>?_
 have hs:=y9 x.2
 have hg:j3 o x.1 0=x.2:=by
  have:=r.get x.1 0
  rw [vC r.ris (k:=x.1) (x:=x.2) hx] at this
  exact (Prod.mk.inj this).1
 rw [hg,decide_eq_true (show 1≤spW x.2∧spW x.2 < 1+16 by omega),Bool.and_true]
theorem Rep.due (r:Rep spW o l) (now:Int):(dU (o,now)).1=l6 l now∧Rep spW (dU (o,now)).2 (vO l now):=by
 refine ⟨r.dueL_eq now,?_⟩
 show Rep spW ((q9 o now).foldl (fJ spW) o) _
 rw [r.dueL_eq,← aI0 r.ris]
 exact Rep.foldTake aD0 _ r
theorem Rep.duePre (r:Rep spW o l) (h:l.length≤1048576) (now:Int):f9 (o,now):=Nat.le_trans (r.less _ (by omega)) h
theorem Rep.lenE (r:Rep spW o l):(iX o).1=(l.length:Int):=by
 show ((aGT o 0 (o.nl 0):Nat):Int)=_
 rw [r.len]
theorem Rep.setW (r:Rep spW o l) (k:ByteArray) (t:Int):Rep spW (Abs.setW (o,k,t)) (fY l k t):=r.put aD0 k t
theorem Rep.delW (r:Rep spW o l) (k:ByteArray):(Abs.delW (o,k)).1=(s3 l k 0).2∧Rep spW (Abs.delW (o,k)).2 (iG l k):=⟨(Prod.mk.inj (r.get k 0)).2,r.take aD0 k⟩
theorem Rep.atW (r:Rep spW o l) (k:ByteArray):(Abs.atW (o,k)).1=(s3 l k 0).1∧(Abs.atW (o,k)).2.1=(s3 l k 0).2:=⟨(Prod.mk.inj (r.get k 0)).1,(Prod.mk.inj (r.get k 0)).2⟩
end
theorem aBT {l:List (Int×Int×ByteArray)} (h:cH.size l≤1048576):l.length≤1048576:=by
 have h1:(l.map cU.size).sum+1≤1048576:=h
 have h2:∀ m:List (Int×Int×ByteArray),m.length≤(m.map cU.size).sum:=fun m=>by
  induction m with
  | nil=>exact Nat.le_refl _
  | cons a m ih =>
   have:1≤cU.size a:=Nat.le_add_left 1 _
   simp only [List.map_cons,List.sum_cons,List.length_cons]
   omega
 have:=h2 l
 omega
theorem f293.ok (a:Unit) (_:True):f293.vc a:=by
 have r:Rep spW (setW (ob0 Int,f293.s0,(3:Int))) [(f293.s0,3)]:=(Rep.zero (sp:=spW)).setW f293.s0 3
 have hd:=r.due 4
 have e:l6 [(f293.s0,3)] 4=[f293.s0]:=rfl
 have e2:(iX (dU (setW (ob0 Int,f293.s0,(3:Int)),4)).2).1=0:=by
  rw [hd.2.lenE]
  rfl
 refine ⟨r.duePre (by decide) 4,?_,?_⟩
 ·rw [hd.1,e]
  intro _
  refine ⟨by decide,fun _=>?_,fun c=>absurd rfl c⟩
  rw [e2]
  rfl
 ·rw [hd.1,e]
  intro c
  exact absurd rfl c
end Go.Abs
