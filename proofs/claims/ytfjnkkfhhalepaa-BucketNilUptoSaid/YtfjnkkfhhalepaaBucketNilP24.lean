/- Functions, and what the code asks of them: PBucketLaw. -/
import Derived.KernelRfl
import Derived.Test.YtfjnkkfhhalepaaBucketNilP4
import Derived.Test.YtfjnkkfhhalepaaBucketNilP5
import Derived.Test.YtfjnkkfhhalepaaBucketNilP6
import Derived.Test.YtfjnkkfhhalepaaBucketNilP7
import Derived.Test.YtfjnkkfhhalepaaBucketNilP8
import Derived.Test.YtfjnkkfhhalepaaBucketNilP9
import Derived.Test.YtfjnkkfhhalepaaBucketNilP10
import Derived.Test.YtfjnkkfhhalepaaBucketNilP11
import Derived.Test.YtfjnkkfhhalepaaBucketNilP12
import Derived.Test.YtfjnkkfhhalepaaBucketNilP15
import Derived.Test.YtfjnkkfhhalepaaBucketNilP16
import Derived.Test.YtfjnkkfhhalepaaBucketNilP17
import Derived.Test.YtfjnkkfhhalepaaBucketNilP18
import Derived.Test.YtfjnkkfhhalepaaBucketNilP20
import Derived.Test.YtfjnkkfhhalepaaBucketNilP21
import Derived.Test.YtfjnkkfhhalepaaBucketNilP22
import Derived.Test.YtfjnkkfhhalepaaBucketNilP23
set_option maxRecDepth 100000
set_option maxHeartbeats 4000000
set_option linter.unusedVariables false
set_option linter.unusedSimpArgs false
set_option linter.unusedSectionVars false
-- interregnum/interregnumlaw17.awake
namespace Go.Abs
open Go
def f305.args (a:Unit):List D:=[]
def f305.blks (a:Unit):List (List D):=[]
def f305.res (a:Unit):List D:=[.bool (cB a)]
def f305.blks' (a:Unit):List (List D):=[]
def f305.C:aO:=FnC f305.args f305.blks (fun _=>True) f305.res f305.blks'
set_option linter.unusedVariables false
def f305.s0:ByteArray:=⟨#[97]⟩
def f305.kills (a:Unit):List Hint:=[]
def f305.cuts (a:Unit):List (Nat×Σ β:Type,β→Tm):=[(3000001000001,⟨Unit,fun x=>⟨[],[],[]⟩⟩)]
def f305.af (a:Unit):AF:=AF.mk (.seq (.region [⟨(some 0),0,.move,[.c (.bool false)],none⟩])
 (.seq (.region [oT 3 1 (.call false 143) [],
 mT 1 5 3])
 (.seq (.toObj 0 0 1) (.seq (.seq (.region [mT 4 6 1,
 oT 5 7 (.isNil true false) [4]])
 (.cond (.t 5) (.seq (.region [⟨(some 0),8,.move,[.c (.bool false)],none⟩])
 (.ret)) (.skip)))
 (.seq (.region [mT 6 9 1,
 ⟨(some 7),10,(.build [.int .i64 (0),.int .i64 (0),.int .i64 (0)] [(0,1)]),[.c (.int .i64 (4))],none⟩,
 ⟨(some 8),11,(.call true 145),[.t 6,.c (.str f305.s0),.t 7],none⟩])
 (.seq (.region [mT 9 15 1,
 ⟨(some 10),16,(.build [.int .i64 (0),.int .i64 (0),.int .i64 (0)] [(0,1)]),[.c (.int .i64 (3))],none⟩,
 oT 11 17 (.call true 148) [9,10],
 mT 2 21 11])
 (.seq (.region [mT 12 22 2,
 oT 13 23 (.len false) [12],
 ⟨(some 14),24,(.bin .eql),[.t 13,.c (.int .i64 (1))],none⟩,
 mT 15 25 14,
 oG 16 26 .move [2] 15 true,
 ⟨(some 17),27,(.indexAddr 1 none),[.t 16,.c (.int .i64 (0))],(some (15,true))⟩,
 oG 18 28 (.load false 1) [17] 15 true,
 ⟨(some 19),29,(.bin .eql),[.t 18,.c (.str f305.s0)],(some (15,true))⟩,
 ⟨(some 20),30,.pick,[.t 15,.t 19,.c (.bool false)],none⟩,
 mT 21 31 20,
 oG 22 32 .move [1] 21 true,
 oG 23 33 (.call true 261) [22] 21 true,
 ⟨(some 24),37,(.bin .eql),[.t 23,.c (.int .i64 (1))],(some (21,true))⟩,
 ⟨(some 25),38,.pick,[.t 21,.t 24,.c (.bool false)],none⟩,
 mT 0 39 25])
 (.ret))))))))
 [.tmp 0] 0 26
def f305.env:Env:=[(143,f143.C),(145,f145.C),(148,f148.C),(261,f261.C)]
def f305.tree (a:Unit):Prop:=∃ c1:Unit,True∧∃ c2:(Ob aC)×ByteArray×aC,(f305.s0=c2.2.1)∧((4:Int)=c2.2.2.1)∧((0:Int)=c2.2.2.2.1)∧((0:Int)=c2.2.2.2.2)∧ObQ 0 0 (ob0 aC).nl c2.1.nl (ob0 aC).n c2.1.n (ob0 aC).ks c2.1.ks (fun _ _=>[]) (ovs aE c2.1) (True∧∃ c3:(Ob aC)×aC,((3:Int)=c3.2.1)∧((0:Int)=c3.2.2.1)∧((0:Int)=c3.2.2.2)∧ObQ 0 0 (putX c2).nl c3.1.nl (putX c2).n c3.1.n (putX c2).ks c3.1.ks (ovs aE (putX c2)) (ovs aE c3.1) ((j8 c3)∧Br ((((dS c3).1).length:Int)==(1:Int)) (Br (decide ((0:Int)≤(0:Int))&&decide ((0:Int) < (((dS c3).1).length:Int))) (Br ((at_ ((dS c3).1) (0:Int)).toList==f305.s0.toList) (∃ c9:Ob aC,ObQ 0 0 ((dS c3).2).nl c9.nl ((dS c3).2).n c9.n ((dS c3).2).ks c9.ks (ovs aE ((dS c3).2)) (ovs aE c9) (True∧((((lenX c9).1)==(1:Int))=(cB a))∧True)) ((false=(cB a))∧True)) False) ((false=(cB a))∧True)))
def f305.vc (a:Unit):Prop:=(j8 ((putX (ob0 aC,f305.s0,((4:Int),(0:Int),(0:Int)))),((3:Int),(0:Int),(0:Int)))∧(((((dS ((putX (ob0 aC,f305.s0,((4:Int),(0:Int),(0:Int)))),((3:Int),(0:Int),(0:Int)))).1).length:Int)=(1:Int)→((0:Int) < (((dS ((putX (ob0 aC,f305.s0,((4:Int),(0:Int),(0:Int)))),((3:Int),(0:Int),(0:Int)))).1).length:Int)∧(((at_ ((dS ((putX (ob0 aC,f305.s0,((4:Int),(0:Int),(0:Int)))),((3:Int),(0:Int),(0:Int)))).1) (0:Int))=f305.s0→((((lenX ((dS ((putX (ob0 aC,f305.s0,((4:Int),(0:Int),(0:Int)))),((3:Int),(0:Int),(0:Int)))).2)).1)==(1:Int))=cB a))∧(¬((at_ ((dS ((putX (ob0 aC,f305.s0,((4:Int),(0:Int),(0:Int)))),((3:Int),(0:Int),(0:Int)))).1) (0:Int))=f305.s0)→(false=cB a)))))∧(¬((((dS ((putX (ob0 aC,f305.s0,((4:Int),(0:Int),(0:Int)))),((3:Int),(0:Int),(0:Int)))).1).length:Int)=(1:Int))→(false=cB a))))
theorem f305.of (a:Unit) (h:f305.vc a):f305.tree a:=⟨(),⟨trivial,⟨(ob0 aC,f305.s0,((4:Int),(0:Int),(0:Int))),⟨rfl,⟨rfl,⟨rfl,⟨rfl,obQ rfl (OV.zero (e:=aE)) rfl (⟨trivial,⟨((putX (ob0 aC,f305.s0,((4:Int),(0:Int),(0:Int)))),((3:Int),(0:Int),(0:Int))),⟨rfl,⟨rfl,⟨rfl,obQ rfl (OV.self (e:=aE)) rfl (⟨h.1,br h.2 Cnd.eq (fun h4 k17=>chk k17.2 Cnd.ix ⟨(by decide),k17.1⟩ (fun h6 k15=>br k15 Cnd.seq (fun h7 k13=>⟨(dS ((putX (ob0 aC,f305.s0,((4:Int),(0:Int),(0:Int)))),((3:Int),(0:Int),(0:Int)))).2,obQ rfl (OV.self (e:=aE)) rfl (⟨trivial,⟨k13,trivial⟩⟩)⟩) (fun h8 k14=>⟨k14,trivial⟩))) (fun h5 k18=>⟨k18,trivial⟩)⟩)⟩⟩⟩⟩⟩)⟩⟩⟩⟩⟩⟩⟩
theorem f305.eq (a:Unit):(f305.af a).gives f305.env (f305.args a) (f305.blks a) (f305.res a) (f305.blks' a)=f305.tree a:=by kernel_rfl
def f330.wf (a:aF):Prop:=dK.ok a
def f330.size (a:aF):Nat:=dK.size a
def f330.lpre (a:aF):Prop:=f330.wf a∧f330.size a≤1048576
def f330.args (a:aF):List D:=[.agg [.int .i64 a.1,.str a.2.1,.int .i64 a.2.2.1,.int .i64 a.2.2.2.1,.int .i64 a.2.2.2.2]]
def f330.blks (a:aF):List (List D):=[]
def f330.res (a:aF):List D:=[.bool (cB a)]
def f330.blks' (a:aF):List (List D):=[]
def f330.C:aO:=FnC f330.args f330.blks (fun a=>f330.lpre a) f330.res f330.blks'
def f330.kills (a:aF):List Hint:=[]
def f330.cuts (a:aF):List (Nat×Σ β:Type,β→Tm):=[]
def f330.af (a:aF):AF:=AF.mk (.seq (.region [oT 1 0 .box [0],
 ⟨(some 2),1,.move,[.c (.bool false)],none⟩])
 (.seq (.seq (.region [oT 6 2 (.call false 305) [],
 oT 7 6 (.un .not) [6],
 mT 8 7 7,
 oG 9 8 (.load true 5) [1] 8 false,
 oG 10 9 (.buildSlice 5 1 [.int .i64 (0),.str ByteArray.empty,.int .i64 (0),.int .i64 (0),.int .i64 (0)] [(0,5)]) [9] 8 false,
 oG 11 10 (.call false 306) [10] 8 false,
 oG 12 14 (.un .not) [11] 8 false,
 ⟨(some 13),15,.pick,[.t 8,.c (.bool true),.t 12],none⟩])
 (.cond (.t 13) (.seq (.region [oT 14 16 (.call false 305) [],
 mT 2 20 14])
 (.ret)) (.skip)))
 (.seq (.region [⟨(some 3),21,.move,[.c (.nilp)],none⟩])
 (.seq (.region [mT 15 22 3,
 oT 16 23 (.fieldAddr 1) [1],
 oT 17 24 (.load false 1) [16],
 oT 18 25 (.fieldAddr 2) [1],
 oT 19 26 (.load true 3) [18],
 oT 20 27 (.call true 145) [15,17,19]])
 (.seq (.region [mT 22 31 3,
 oT 23 32 (.fieldAddr 1) [1],
 oT 24 33 (.load false 1) [23],
 oT 25 34 (.call true 192) [22,24],
 mT 21 38 25,
 oT 26 39 (.extract 0) [21],
 oT 27 40 (.extract 1) [21],
 oT 4 41 (.alloc [.int .i64 (0),.int .i64 (0),.int .i64 (0)]) [],
 ⟨none,45,(.store 3),[.t 4,.t 26],none⟩,
 mT 5 46 27])
 (.seq (.region [mT 28 47 5,
 oT 29 48 (.un .not) [28],
 mT 30 49 29,
 oG 31 50 .move [3] 30 true,
 oG 32 51 (.fieldAddr 1) [1] 30 true,
 oG 33 52 (.load false 1) [32] 30 true,
 oG 34 53 (.call true 163) [31,33] 30 true,
 oG 35 57 (.un .not) [34] 30 true,
 ⟨(some 36),58,.pick,[.t 30,.t 35,.c (.bool false)],none⟩,
 mT 37 59 36,
 oG 38 60 .move [3] 37 true,
 oG 39 61 (.call true 261) [38] 37 true,
 ⟨(some 40),65,(.bin .eql),[.t 39,.c (.int .i64 (0))],(some (37,true))⟩,
 ⟨(some 41),66,.pick,[.t 37,.t 40,.c (.bool false)],none⟩,
 mT 42 67 41,
 oG 43 68 .move [3] 42 true,
 oG 44 69 (.fieldAddr 2) [1] 42 true,
 oG 45 70 (.load true 3) [44] 42 true,
 oG 46 71 (.call true 148) [43,45] 42 true,
 oG 47 75 (.len false) [46] 42 true,
 ⟨(some 48),76,(.bin .eql),[.t 47,.c (.int .i64 (0))],(some (42,true))⟩,
 ⟨(some 49),77,.pick,[.t 42,.t 48,.c (.bool false)],none⟩,
 mT 2 78 49])
 (.ret)))))))
 [.tmp 2] 0 49
def f330.env:Env:=[(305,f305.C),(306,f306.C),(145,f1145.C),(192,f1192.C),(163,f1163.C),(261,f1261.C),(148,f1148.C)]
def f330.tree (a:aF):Prop:=∃ c1:Unit,True∧Br (!(cB c1)) (∃ c4:Unit,True∧((cB c4)=(cB a))∧True) (∃ c7:List (aF),SlQ 1 c7.length (fun _=>[.int .i64 a.1,.str a.2.1,.int .i64 a.2.2.1,.int .i64 a.2.2.2.1,.int .i64 a.2.2.2.2]) (gl cG c7) ((L20 c7)∧Br (!(jP c7)) (∃ c10:Unit,True∧((cB c10)=(cB a))∧True) (∃ c13:ByteArray×aC,(a.2.1=c13.1)∧(a.2.2.1=c13.2.1)∧(a.2.2.2.1=c13.2.2.1)∧(a.2.2.2.2=c13.2.2.2)∧True∧∃ c14:ByteArray,(a.2.1=c14)∧True∧Br (!((nL c14).2)) (∃ c17:ByteArray,(a.2.1=c17)∧True∧Br (!(xY c17)) (∃ c20:Unit,True∧Br ((y8 c20)==(0:Int)) (∃ c23:aC,(a.2.2.1=c23.1)∧(a.2.2.2.1=c23.2.1)∧(a.2.2.2.2=c23.2.2)∧True∧((((vV c23).length:Int)==(0:Int))=(cB a))∧True) ((false=(cB a))∧True)) ((false=(cB a))∧True)) ((false=(cB a))∧True))))
def f330.vc (a:aF):Prop:=((¬((cB ())=true)→((cB ())=cB a))∧(¬(¬((cB ())=true))→(L20 ([a])∧((¬((jP ([a]))=true)→((cB ())=cB a))∧(¬(¬((jP ([a]))=true))→((¬(((nL (a.2.1)).2)=true)→((¬((xY (a.2.1))=true)→(((y8 ())=(0:Int)→((((vV (a.2.2)).length:Int)==(0:Int))=cB a))∧(¬((y8 ())=(0:Int))→(false=cB a))))∧(¬(¬((xY (a.2.1))=true))→(false=cB a))))∧(¬(¬(((nL (a.2.1)).2)=true))→(false=cB a))))))))
theorem f330.of (a:aF) (h:f330.vc a):f330.tree a:=⟨(),⟨trivial,br h (Cnd.not Cnd.b) (fun h2 k42=>⟨(),⟨trivial,⟨k42,trivial⟩⟩⟩) (fun h3 k43=>⟨[a],slQ (Rds.one (enc:=cG) (DEqs.refl _)) (⟨k43.1,br k43.2 (Cnd.not Cnd.b) (fun h8 k39=>⟨(),⟨trivial,⟨k39,trivial⟩⟩⟩) (fun h9 k40=>⟨(a.2.1,a.2.2),⟨rfl,⟨rfl,⟨rfl,⟨rfl,⟨trivial,⟨a.2.1,⟨rfl,⟨trivial,br k40 (Cnd.not Cnd.b) (fun h15 k35=>⟨a.2.1,⟨rfl,⟨trivial,br k35 (Cnd.not Cnd.b) (fun h18 k31=>⟨(),⟨trivial,br k31 Cnd.eq (fun h21 k27=>⟨a.2.2,⟨rfl,⟨rfl,⟨rfl,⟨trivial,⟨k27,trivial⟩⟩⟩⟩⟩⟩) (fun h22 k28=>⟨k28,trivial⟩)⟩⟩) (fun h19 k32=>⟨k32,trivial⟩)⟩⟩⟩) (fun h16 k36=>⟨k36,trivial⟩)⟩⟩⟩⟩⟩⟩⟩⟩⟩)⟩)⟩)⟩⟩
theorem f330.eq (a:aF):(f330.af a).gives f330.env (f330.args a) (f330.blks a) (f330.res a) (f330.blks' a)=f330.tree a:=by kernel_rfl
def Rg (l:List (ByteArray×Rs3)):Prop:=∀ k x,(k,x)∈l→x.1≤9223372036854775807
theorem Rg.nil:Rg []:=fun _ _ h=>by cases h
theorem Rg.put {l:List (ByteArray×Rs3)} (h:Rg l) (k:ByteArray) {x:Rs3} (hx:x.1≤9223372036854775807):Rg (aEW l k x):=fun k' y hy=>by
 rcases uD.1 hy with ⟨_,rfl⟩ | ⟨_,h2⟩
 ·exact hx
 ·exact h k' y h2
theorem Rg.del {l:List (ByteArray×Rs3)} (h:Rg l) (k:ByteArray):Rg (zJ l k):=fun k' y hy=>h k' y (gW.1 hy).1
theorem aFU {m n:Nat} (h:m≤n):d5 m≤d5 n:=by
 unfold d5
 by_cases h0:m=0
 ·simp [h0]
 ·have h1:n≠0:=by omega
  rw [if_neg h0,if_neg h1]
  have:m.log2≤n.log2:=(Nat.le_log2 h1).2 (Nat.le_trans (Nat.log2_self_le h0) h)
  omega
theorem aKD {a b:Rs3} (h:a.1≤b.1) (hb:b.1≤9223372036854775807):ofR a≤ofR b:=by
 have w:∀ e:Int,e≤9223372036854775807→IntKind.u64.wrap (mx e 0)=mx e 0∧0≤mx e 0:=fun e he=>by
  have hm:0≤mx e 0∧mx e 0≤9223372036854775807:=by
   unfold mx
   by_cases h:e < 0 <;> simp [h] <;> omega
  refine ⟨f7 ?_ ?_,hm.1⟩ <;> (unfold IntKind.signed IntKind.bits; simp; omega)
 have hm:mx a.1 0≤mx b.1 0:=by
  unfold mx
  by_cases h1:a.1 < 0 <;> by_cases h2:b.1 < 0 <;> simp [h1,h2] <;> omega
 unfold ofR cE
 rw [(w a.1 (by omega)).1,(w b.1 hb).1]
 have:=aFU (m:=(mx a.1 0).toNat) (n:=(mx b.1 0).toNat) (by omega)
 omega
theorem aIS {a b:Rs3}:eF (a,b)=true↔a.1≤b.1∧a.2.1≤b.2.1∧a.2.2≤b.2.2:=by
 unfold eF
 rw [decide_eq_true_eq]
section
variable {o:Ob Rs3} {l:List (ByteArray×Rs3)}
theorem Rep.atLe (r:Rep spB o l) (rg:Rg l) (x:Rs3):aIA o x=aIQ l x:=by
 have hx:=kM x
 unfold aIA
 rw [r.sorted _ (by omega)]
 unfold aIQ
 congr 1
 refine List.filter_congr fun y hy=>?_
 have hy':(y.1,y.2)∈l:=hy
 have hg:mX o y.1 (0,0,0)=y.2:=by
  have:=r.get y.1 (0,0,0)
  rw [aCX r.ris hy'] at this
  exact (Prod.mk.inj this).1
 rw [hg]
 cases hf:eF (x,y.2) with
 | false=>rfl
 | true =>
  have h1:=aKD (aIS.1 hf).1 (rg _ _ hy')
  have h2:=kM y.2
  rw [Bool.true_and]
  refine decide_eq_true ?_
  unfold spB
  omega
theorem Rep.atLePre (r:Rep spB o l) (h:l.length≤1048576) (x:Rs3):j8 (o,x):=fun _ _ hj=>Nat.le_trans (r.less _ hj) h
theorem Rep.lenX (r:Rep spB o l):(Abs.lenX o).1=(l.length:Int):=by
 show ((aGF o 0 (o.nl 0):Nat):Int)=_
 rw [r.len]
theorem Rep.putX (r:Rep spB o l) (k:ByteArray) (x:Rs3):Rep spB (Abs.putX (o,k,x)) (aEW l k x):=r.put aIC k x
theorem Rep.delX (r:Rep spB o l) (k:ByteArray):(Abs.delX (o,k)).1=(aCL l k (0,0,0)).2∧Rep spB (Abs.delX (o,k)).2 (zJ l k):=⟨(Prod.mk.inj (r.get k (0,0,0))).2,r.take aIC k⟩
theorem Rep.getX (r:Rep spB o l) (k:ByteArray):(Abs.getX (o,k)).1=(aCL l k (0,0,0)).1∧(Abs.getX (o,k)).2.1=(aCL l k (0,0,0)).2:=⟨(Prod.mk.inj (r.get k (0,0,0))).1,(Prod.mk.inj (r.get k (0,0,0))).2⟩
end
theorem f305.ok (a:Unit) (_:True):f305.vc a:=by
 have r:Rep spB (putX (ob0 Rs3,f305.s0,((4:Int),(0:Int),(0:Int)))) [(f305.s0,(4,0,0))]:=(Rep.zero (sp:=spB)).putX f305.s0 (4,0,0)
 have rg:Rg [(f305.s0,((4:Int),(0:Int),(0:Int)))]:=Rg.nil.put f305.s0 (x:=(4,0,0)) (by decide)
 have hd:=r.atLe rg (3,0,0)
 have e:aIQ [(f305.s0,((4:Int),(0:Int),(0:Int)))] (3,0,0)=[f305.s0]:=rfl
 have e1:(dS (putX (ob0 Rs3,f305.s0,((4:Int),(0:Int),(0:Int))),((3:Int),(0:Int),(0:Int)))).1=[f305.s0]:=hd.trans e
 have e2:(lenX (dS (putX (ob0 Rs3,f305.s0,((4:Int),(0:Int),(0:Int))),((3:Int),(0:Int),(0:Int)))).2).1=1:=r.lenX
 refine ⟨r.atLePre (by decide) _,?_,?_⟩
 ·rw [e1]
  intro _
  refine ⟨by decide,fun _=>?_,fun c=>absurd rfl c⟩
  rw [e2]
  rfl
 ·rw [e1]
  intro c
  exact absurd rfl c
theorem f330.ok (a:Int×ByteArray×Rs3) (_:f330.lpre a):f330.vc a:=by
 refine ⟨fun c=>absurd rfl c,fun _=>⟨by show [a].length≤1048576; simp,fun _=>rfl,fun _=>⟨fun _=>⟨fun _=>⟨fun _=>rfl,fun c=>absurd rfl c⟩,fun c=>absurd (fun hh=>by cases hh) c⟩,fun c=>absurd (fun hh=>by cases hh) c⟩⟩⟩
end Go.Abs
