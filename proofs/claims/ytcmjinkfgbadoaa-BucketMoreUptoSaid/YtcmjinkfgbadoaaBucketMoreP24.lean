/- Functions, and what the code asks of them: PBucketLaw. -/
import Derived.KernelRfl
import Derived.Test.YtcmjinkfgbadoaaBucketMoreP4
import Derived.Test.YtcmjinkfgbadoaaBucketMoreP5
import Derived.Test.YtcmjinkfgbadoaaBucketMoreP6
import Derived.Test.YtcmjinkfgbadoaaBucketMoreP7
import Derived.Test.YtcmjinkfgbadoaaBucketMoreP8
import Derived.Test.YtcmjinkfgbadoaaBucketMoreP9
import Derived.Test.YtcmjinkfgbadoaaBucketMoreP10
import Derived.Test.YtcmjinkfgbadoaaBucketMoreP11
import Derived.Test.YtcmjinkfgbadoaaBucketMoreP12
import Derived.Test.YtcmjinkfgbadoaaBucketMoreP15
import Derived.Test.YtcmjinkfgbadoaaBucketMoreP16
import Derived.Test.YtcmjinkfgbadoaaBucketMoreP17
import Derived.Test.YtcmjinkfgbadoaaBucketMoreP18
import Derived.Test.YtcmjinkfgbadoaaBucketMoreP20
import Derived.Test.YtcmjinkfgbadoaaBucketMoreP21
import Derived.Test.YtcmjinkfgbadoaaBucketMoreP22
import Derived.Test.YtcmjinkfgbadoaaBucketMoreP23
set_option maxRecDepth 100000
set_option maxHeartbeats 4000000
set_option linter.unusedVariables false
set_option linter.unusedSimpArgs false
set_option linter.unusedSectionVars false
-- interregnum/interregnumlaw17.awake
namespace Go.Abs
open Go
def f305.args (a:Unit):List D:=[]
def f305.blks (a:Unit):List (List D):=[]
def f305.res (a:Unit):List D:=[.bool (cA a)]
def f305.blks' (a:Unit):List (List D):=[]
def f305.C:aO:=FnC f305.args f305.blks (fun _=>True) f305.res f305.blks'
set_option linter.unusedVariables false
def f305.s0:ByteArray:=⟨#[97]⟩
def f305.kills (a:Unit):List Hint:=[]
def f305.cuts (a:Unit):List (Nat×Σ β:Type,β→Tm):=[(3000001000001,⟨Unit,fun x=>⟨[],[],[]⟩⟩)]
def f305.af (a:Unit):AF:=AF.mk (.seq (.region [⟨(some 0),0,.move,[.c (.bool false)],none⟩])
 (.seq (.region [oT 3 1 (.call false 143) [],
 mT 1 5 3])
 (.seq (.toObj 0 0 1) (.seq (.seq (.region [mT 4 6 1,
 oT 5 7 (.isNil true false) [4]])
 (.cond (.t 5) (.seq (.region [⟨(some 0),8,.move,[.c (.bool false)],none⟩])
 (.ret)) (.skip)))
 (.seq (.region [mT 6 9 1,
 ⟨(some 7),10,(.build [.int .i64 (0),.int .i64 (0),.int .i64 (0)] [(0,1)]),[.c (.int .i64 (4))],none⟩,
 ⟨(some 8),11,(.call true 145),[.t 6,.c (.str f305.s0),.t 7],none⟩])
 (.seq (.region [mT 9 15 1,
 ⟨(some 10),16,(.build [.int .i64 (0),.int .i64 (0),.int .i64 (0)] [(0,1)]),[.c (.int .i64 (3))],none⟩,
 oT 11 17 (.call true 148) [9,10],
 mT 2 21 11])
 (.seq (.region [mT 12 22 2,
 oT 13 23 (.len false) [12],
 ⟨(some 14),24,(.bin .eql),[.t 13,.c (.int .i64 (1))],none⟩,
 mT 15 25 14,
 oG 16 26 .move [2] 15 true,
 ⟨(some 17),27,(.indexAddr 1 none),[.t 16,.c (.int .i64 (0))],(some (15,true))⟩,
 oG 18 28 (.load false 1) [17] 15 true,
 ⟨(some 19),29,(.bin .eql),[.t 18,.c (.str f305.s0)],(some (15,true))⟩,
 ⟨(some 20),30,.pick,[.t 15,.t 19,.c (.bool false)],none⟩,
 mT 21 31 20,
 oG 22 32 .move [1] 21 true,
 oG 23 33 (.call true 261) [22] 21 true,
 ⟨(some 24),37,(.bin .eql),[.t 23,.c (.int .i64 (1))],(some (21,true))⟩,
 ⟨(some 25),38,.pick,[.t 21,.t 24,.c (.bool false)],none⟩,
 mT 0 39 25])
 (.ret))))))))
 [.tmp 0] 0 26
def f305.env:Env:=[(143,f143.C),(145,f145.C),(148,f148.C),(261,f261.C)]
def f305.tree (a:Unit):Prop:=∃ c1:Unit,True∧∃ c2:(Ob aC)×ByteArray×aC,(f305.s0=c2.2.1)∧((4:Int)=c2.2.2.1)∧((0:Int)=c2.2.2.2.1)∧((0:Int)=c2.2.2.2.2)∧ObQ 0 0 (ob0 aC).nl c2.1.nl (ob0 aC).n c2.1.n (ob0 aC).ks c2.1.ks (fun _ _=>[]) (ovs aE c2.1) (True∧∃ c3:(Ob aC)×aC,((3:Int)=c3.2.1)∧((0:Int)=c3.2.2.1)∧((0:Int)=c3.2.2.2)∧ObQ 0 0 (putX c2).nl c3.1.nl (putX c2).n c3.1.n (putX c2).ks c3.1.ks (ovs aE (putX c2)) (ovs aE c3.1) ((eI c3)∧Br ((((bR c3).1).length:Int)==(1:Int)) (Br (decide ((0:Int)≤(0:Int))&&decide ((0:Int) < (((bR c3).1).length:Int))) (Br ((at_ ((bR c3).1) (0:Int)).toList==f305.s0.toList) (∃ c9:Ob aC,ObQ 0 0 ((bR c3).2).nl c9.nl ((bR c3).2).n c9.n ((bR c3).2).ks c9.ks (ovs aE ((bR c3).2)) (ovs aE c9) (True∧((((lenX c9).1)==(1:Int))=(cA a))∧True)) ((false=(cA a))∧True)) False) ((false=(cA a))∧True)))
def f305.vc (a:Unit):Prop:=(eI ((putX (ob0 aC,f305.s0,((4:Int),(0:Int),(0:Int)))),((3:Int),(0:Int),(0:Int)))∧(((((bR ((putX (ob0 aC,f305.s0,((4:Int),(0:Int),(0:Int)))),((3:Int),(0:Int),(0:Int)))).1).length:Int)=(1:Int)→((0:Int) < (((bR ((putX (ob0 aC,f305.s0,((4:Int),(0:Int),(0:Int)))),((3:Int),(0:Int),(0:Int)))).1).length:Int)∧(((at_ ((bR ((putX (ob0 aC,f305.s0,((4:Int),(0:Int),(0:Int)))),((3:Int),(0:Int),(0:Int)))).1) (0:Int))=f305.s0→((((lenX ((bR ((putX (ob0 aC,f305.s0,((4:Int),(0:Int),(0:Int)))),((3:Int),(0:Int),(0:Int)))).2)).1)==(1:Int))=cA a))∧(¬((at_ ((bR ((putX (ob0 aC,f305.s0,((4:Int),(0:Int),(0:Int)))),((3:Int),(0:Int),(0:Int)))).1) (0:Int))=f305.s0)→(false=cA a)))))∧(¬((((bR ((putX (ob0 aC,f305.s0,((4:Int),(0:Int),(0:Int)))),((3:Int),(0:Int),(0:Int)))).1).length:Int)=(1:Int))→(false=cA a))))
theorem f305.of (a:Unit) (h:f305.vc a):f305.tree a:=⟨(),⟨trivial,⟨(ob0 aC,f305.s0,((4:Int),(0:Int),(0:Int))),⟨rfl,⟨rfl,⟨rfl,⟨rfl,obQ rfl (OV.zero (e:=aE)) rfl (⟨trivial,⟨((putX (ob0 aC,f305.s0,((4:Int),(0:Int),(0:Int)))),((3:Int),(0:Int),(0:Int))),⟨rfl,⟨rfl,⟨rfl,obQ rfl (OV.self (e:=aE)) rfl (⟨h.1,br h.2 Cnd.eq (fun h4 k17=>chk k17.2 Cnd.ix ⟨(by decide),k17.1⟩ (fun h6 k15=>br k15 Cnd.seq (fun h7 k13=>⟨(bR ((putX (ob0 aC,f305.s0,((4:Int),(0:Int),(0:Int)))),((3:Int),(0:Int),(0:Int)))).2,obQ rfl (OV.self (e:=aE)) rfl (⟨trivial,⟨k13,trivial⟩⟩)⟩) (fun h8 k14=>⟨k14,trivial⟩))) (fun h5 k18=>⟨k18,trivial⟩)⟩)⟩⟩⟩⟩⟩)⟩⟩⟩⟩⟩⟩⟩
theorem f305.eq (a:Unit):(f305.af a).gives f305.env (f305.args a) (f305.blks a) (f305.res a) (f305.blks' a)=f305.tree a:=by kernel_rfl
theorem aKU {n:Int} (h:(Lit.int .i64 n).wf=true):n≤9223372036854775807:=by
 simp [Lit.wf,IntKind.min,IntKind.max,IntKind.signed,IntKind.bits] at h
 omega
def Rg (l:List (ByteArray×Rs3)):Prop:=∀ k x,(k,x)∈l→x.1≤9223372036854775807
theorem Rg.nil:Rg []:=fun _ _ h=>by cases h
theorem Rg.put {l:List (ByteArray×Rs3)} (h:Rg l) (k:ByteArray) {x:Rs3} (hx:x.1≤9223372036854775807):Rg (uS l k x):=fun k' y hy=>by
 rcases rC.1 hy with ⟨_,rfl⟩ | ⟨_,h2⟩
 ·exact hx
 ·exact h k' y h2
theorem Rg.del {l:List (ByteArray×Rs3)} (h:Rg l) (k:ByteArray):Rg (tK l k):=fun k' y hy=>h k' y (hP.1 hy).1
theorem aG6 {m n:Nat} (h:m≤n):eA m≤eA n:=by
 unfold eA
 by_cases h0:m=0
 ·simp [h0]
 ·have h1:n≠0:=by omega
  rw [if_neg h0,if_neg h1]
  have:m.log2≤n.log2:=(Nat.le_log2 h1).2 (Nat.le_trans (Nat.log2_self_le h0) h)
  omega
theorem aKZ {a b:Rs3} (h:a.1≤b.1) (hb:b.1≤9223372036854775807):ofR a≤ofR b:=by
 have w:∀ e:Int,e≤9223372036854775807→IntKind.u64.wrap (mx e 0)=mx e 0∧0≤mx e 0:=fun e he=>by
  have hm:0≤mx e 0∧mx e 0≤9223372036854775807:=by
   unfold mx
   by_cases h:e < 0 <;> simp [h] <;> omega
  refine ⟨gF ?_ ?_,hm.1⟩ <;> (unfold IntKind.signed IntKind.bits; simp; omega)
 have hm:mx a.1 0≤mx b.1 0:=by
  unfold mx
  by_cases h1:a.1 < 0 <;> by_cases h2:b.1 < 0 <;> simp [h1,h2] <;> omega
 unfold ofR cH
 rw [(w a.1 (by omega)).1,(w b.1 hb).1]
 have:=aG6 (m:=(mx a.1 0).toNat) (n:=(mx b.1 0).toNat) (by omega)
 omega
theorem aD7 {a b:Rs3}:dW (a,b)=true↔a.1≤b.1∧a.2.1≤b.2.1∧a.2.2≤b.2.2:=by
 unfold dW
 rw [decide_eq_true_eq]
section
variable {o:Ob Rs3} {l:List (ByteArray×Rs3)}
theorem Rep.atLe (r:Rep spB o l) (rg:Rg l) (x:Rs3):aJ8 o x=jT l x:=by
 have hx:=kN x
 unfold aJ8
 rw [r.sorted _ (by omega)]
 unfold jT
 congr 1
 refine List.filter_congr fun y hy=>?_
 have hy':(y.1,y.2)∈l:=hy
 have hg:nI o y.1 (0,0,0)=y.2:=by
  have:=r.get y.1 (0,0,0)
  rw [aCJ r.ris hy'] at this
  exact (Prod.mk.inj this).1
 rw [hg]
 cases hf:dW (x,y.2) with
 | false=>rfl
 | true =>
  have h1:=aKZ (aD7.1 hf).1 (rg _ _ hy')
  have h2:=kN y.2
  rw [Bool.true_and]
  refine decide_eq_true ?_
  unfold spB
  omega
theorem Rep.atLePre (r:Rep spB o l) (h:l.length≤1048576) (x:Rs3):eI (o,x):=fun _ _ hj=>Nat.le_trans (r.less _ hj) h
theorem Rep.lenX (r:Rep spB o l):(Abs.lenX o).1=(l.length:Int):=by
 show ((aHJ o 0 (o.nl 0):Nat):Int)=_
 rw [r.len]
theorem Rep.putX (r:Rep spB o l) (k:ByteArray) (x:Rs3):Rep spB (Abs.putX (o,k,x)) (uS l k x):=r.put aJZ k x
theorem Rep.delX (r:Rep spB o l) (k:ByteArray):(Abs.delX (o,k)).1=(aCR l k (0,0,0)).2∧Rep spB (Abs.delX (o,k)).2 (tK l k):=⟨(Prod.mk.inj (r.get k (0,0,0))).2,r.take aJZ k⟩
theorem Rep.getX (r:Rep spB o l) (k:ByteArray):(Abs.getX (o,k)).1=(aCR l k (0,0,0)).1∧(Abs.getX (o,k)).2.1=(aCR l k (0,0,0)).2:=⟨(Prod.mk.inj (r.get k (0,0,0))).1,(Prod.mk.inj (r.get k (0,0,0))).2⟩
end
theorem aA7 {l:List (Int×ByteArray×Rs3)} (h:bZ.size l≤1048576):l.length≤1048576:=by
 have h1:(l.map cX.size).sum+1≤1048576:=h
 have h2:∀ m:List (Int×ByteArray×Rs3),m.length≤(m.map cX.size).sum:=fun m=>by
  induction m with
  | nil=>exact Nat.le_refl _
  | cons a m ih =>
   have:1≤cX.size a:=Nat.le_add_left 1 _
   simp only [List.map_cons,List.sum_cons,List.length_cons]
   omega
 have:=h2 l
 omega
theorem aKY {s:List (Int×ByteArray×Rs3)} (h:bZ.ok s):∀ x∈s,x.2.2.1≤9223372036854775807:=fun x hx=>aKU (h x hx).2.2.1
theorem f305.ok (a:Unit) (_:True):f305.vc a:=by
 have r:Rep spB (putX (ob0 Rs3,f305.s0,((4:Int),(0:Int),(0:Int)))) [(f305.s0,(4,0,0))]:=(Rep.zero (sp:=spB)).putX f305.s0 (4,0,0)
 have rg:Rg [(f305.s0,((4:Int),(0:Int),(0:Int)))]:=Rg.nil.put f305.s0 (x:=(4,0,0)) (by decide)
 have hd:=r.atLe rg (3,0,0)
 have e:jT [(f305.s0,((4:Int),(0:Int),(0:Int)))] (3,0,0)=[f305.s0]:=rfl
 have e1:(bR (putX (ob0 Rs3,f305.s0,((4:Int),(0:Int),(0:Int))),((3:Int),(0:Int),(0:Int)))).1=[f305.s0]:=hd.trans e
 have e2:(lenX (bR (putX (ob0 Rs3,f305.s0,((4:Int),(0:Int),(0:Int))),((3:Int),(0:Int),(0:Int)))).2).1=1:=r.lenX
 refine ⟨r.atLePre (by decide) _,?_,?_⟩
 ·rw [e1]
  intro _
  refine ⟨by decide,fun _=>?_,fun c=>absurd rfl c⟩
  rw [e2]
  rfl
 ·rw [e1]
  intro c
  exact absurd rfl c
end Go.Abs
