/- Functions, and what the code asks of them: PFeas. -/
import Derived.KernelRfl
import Derived.Test.YtjlehbennimkgaaIdentHasP4
import Derived.Test.YtjlehbennimkgaaIdentHasP5
import Derived.Test.YtjlehbennimkgaaIdentHasP6
import Derived.Test.YtjlehbennimkgaaIdentHasP9
set_option maxRecDepth 100000
set_option maxHeartbeats 4000000
set_option linter.unusedVariables false
set_option linter.unusedSimpArgs false
namespace Go.Abs
open Go
def q5 {α β:Type} (a:List α×β):Prop:=L20 a.1
def ixL (a:List bK×bK):Int:=match a.1.findIdx? fun x=>decide (x=a.2) with
 | some i=>i
 | none=>-1
def uH (a:List bK×bK):Bool:=a.1.any fun x=>decide (x=a.2)
def dY (a:List bK×List bK):Prop:=L20 a.1∧L20 a.2
def cA (a:List bK×List bK):Bool:=a.2.all fun w=>uH (a.1,w)
set_option linter.unusedVariables false
def f136.ent (K:((List (aB))×aB)→Prop) (t:(List (aB))×aB):Prop:=∃ c:(List (aB))×aB,SlQ t.1.length c.1.length (gl aD t.1) (gl aD c.1) ((t.2.1=c.2.1)∧(t.2.2=c.2.2)∧K c)
theorem f136.ei {K:((List (aB))×aB)→Prop} {t:(List (aB))×aB} (h:K t):f136.ent K t:=⟨t,slQ (rS aD) (⟨rfl,⟨rfl,h⟩⟩)⟩
def f136.args (a:(List (aB))×aB):List D:=[.slice .ro 2 a.1.length (gl aD a.1),.agg [.str a.2.1,.str a.2.2]]
def f136.blks (a:(List (aB))×aB):List (List D):=[]
def f136.res (a:(List (aB))×aB):List D:=[.int .i64 (ixL a)]
def f136.blks' (a:(List (aB))×aB):List (List D):=[]
def f136.C:aL:=FnC f136.args f136.blks (fun a=>q5 a) f136.res f136.blks'
def f136.S0 (a:(List (aB))×aB) (x:Int):Tm:=⟨[.slice .ro 2 a.1.length (gl aD a.1),.dead,.dead,.ptr 0 0,.dead,.dead,.dead,.int .i64 (a.1.length:Int),.int .i64 x,.dead,.dead,.dead,.dead,.dead,.dead,.dead,.dead,.dead,.dead],[(0,false,[.str a.2.1,.str a.2.2])],[]⟩
def f136.kills (a:(List (aB))×aB):List Hint:=[.tell Int (f136.S0 a)]
def f136.cuts (a:(List (aB))×aB):List (Nat×Σ β:Type,β→Tm):=[]
def f136.af (a:(List (aB))×aB):AF:=AF.mk (.seq (.region [oT 3 0 .box [1],
 ⟨(some 4),1,.move,[.c (.int .i64 (0))],none⟩])
 (.seq (.seq (.region [oT 6 2 .move [0],
 oT 7 3 (.len false) [6],
 ⟨(some 8),4,.move,[.c (.int .i64 (0))],none⟩])
 (.block 0 (.loopT Int (f136.S0 a) 5 18 (.seq (.region [oT 9 5 (.bin .lss) [8,7]])
 (.seq (.cond (.t 9) (.skip) (.exit 0))
 (.seq (.block 1 (.seq (.region [oT 10 6 .move [8],
 oT 5 7 .move [10]])
 (.seq (.region [oT 11 8 (.load true 2) [3],
 oT 12 9 .move [0],
 oT 13 10 .move [5],
 oT 14 11 (.indexAddr 2 none) [12,13],
 oT 15 12 (.load true 2) [14],
 oT 16 13 (.eqAgg false [2,2]) [11,15]])
 (.cond (.t 16) (.seq (.region [oT 17 14 .move [5],
 oT 4 15 .move [17]])
 (.ret)) (.skip)))))
 (.region [⟨(some 18),16,(.bin .add),[.t 8,.c (.int .i64 (1))],none⟩,
 oT 8 17 .move [18]])))))))
 (.seq (.region [⟨(some 4),18,.move,[.c (.int .i64 (-1))],none⟩])
 (.ret))))
 [.tmp 4] 0 17
def f136.env:Env:=[]
def f136.tree (a:(List (aB))×aB):Prop:=∃ (I2:Int→Prop) (μ3:Int→Nat),(∃ x1:Int,SlS aD a.1 (((a.1.length:Int)=(a.1.length:Int))∧((0:Int)=x1)∧(a.2.1=a.2.1)∧(a.2.2=a.2.2)∧I2 x1))∧∀ y4:Int,I2 y4→(Br (decide (y4 < (a.1.length:Int))) (Br (decide ((0:Int)≤y4)&&decide (y4 < (a.1.length:Int))) (Br ((a.2.1.toList==((at_ a.1 y4).1).toList)&&(a.2.2.toList==((at_ a.1 y4).2).toList)) ((y4=(ixL a))∧True) (Let (wI (y4+(1:Int))) (fun v11:Int=>∃ x12:Int,SlS aD a.1 (((a.1.length:Int)=(a.1.length:Int))∧(v11=x12)∧(a.2.1=a.2.1)∧(a.2.2=a.2.2)∧I2 x12∧μ3 x12 < μ3 y4)))) False) (((-1:Int)=(ixL a))∧True))
def f136.vc (a:(List (aB))×aB):Prop:=(∃ (I2:Int→Prop) (μ3:Int→Nat),I2 (0:Int)∧∀ y4:Int,I2 y4→((y4 < (a.1.length:Int)→((0:Int)≤y4∧y4 < (a.1.length:Int)∧((a.2.1=((at_ a.1 y4).1)∧a.2.2=((at_ a.1 y4).2)→(y4=ixL a))∧(¬(a.2.1=((at_ a.1 y4).1)∧a.2.2=((at_ a.1 y4).2))→(-9223372036854775808≤(y4+(1:Int))∧(y4+(1:Int))≤9223372036854775807∧(I2 (y4+(1:Int))∧μ3 (y4+(1:Int)) < μ3 y4))))))∧(¬(y4 < (a.1.length:Int))→((-1:Int)=ixL a))))
theorem f136.of (a:(List (aB))×aB) (h:f136.vc a):f136.tree a:=Exists.elim h (fun I2 h23_=>Exists.elim h23_ (fun μ3 h23=>⟨I2,μ3,⟨(0:Int),SlS.mk  (⟨rfl,⟨rfl,⟨rfl,⟨rfl,h23.1⟩⟩⟩⟩)⟩,fun y4 h25=>br (h23.2 y4 h25) Cnd.dec (fun h5 k21=>chk k21.2.2 Cnd.ix ⟨k21.1,k21.2.1⟩ (fun h7 k19=>br k19 (Cnd.and Cnd.seq Cnd.seq) (fun h8 k17=>⟨k17,trivial⟩) (fun h9 k18=>wrapK.i64 k18 (fun h14 h15 k16=>⟨(y4+(1:Int)),SlS.mk  (⟨rfl,⟨rfl,⟨rfl,⟨rfl,k16⟩⟩⟩⟩)⟩)))) (fun h6 k22=>⟨k22,trivial⟩)⟩))
theorem f136.eq (a:(List (aB))×aB):(f136.af a).gives f136.env (f136.args a) (f136.blks a) (f136.res a) (f136.blks' a)=f136.tree a:=by kernel_rfl
def f132.ent (K:((List (aB))×aB)→Prop) (t:(List (aB))×aB):Prop:=∃ c:(List (aB))×aB,SlQ t.1.length c.1.length (gl aD t.1) (gl aD c.1) ((t.2.1=c.2.1)∧(t.2.2=c.2.2)∧K c)
theorem f132.ei {K:((List (aB))×aB)→Prop} {t:(List (aB))×aB} (h:K t):f132.ent K t:=⟨t,slQ (rS aD) (⟨rfl,⟨rfl,h⟩⟩)⟩
def f132.args (a:(List (aB))×aB):List D:=[.slice .ro 2 a.1.length (gl aD a.1),.agg [.str a.2.1,.str a.2.2]]
def f132.blks (a:(List (aB))×aB):List (List D):=[]
def f132.res (a:(List (aB))×aB):List D:=[.bool (uH a)]
def f132.blks' (a:(List (aB))×aB):List (List D):=[]
def f132.C:aL:=FnC f132.args f132.blks (fun a=>q5 a) f132.res f132.blks'
def f132.kills (a:(List (aB))×aB):List Hint:=[]
def f132.cuts (a:(List (aB))×aB):List (Nat×Σ β:Type,β→Tm):=[]
def f132.af (a:(List (aB))×aB):AF:=AF.mk (.seq (.region [oT 3 0 .box [1],
 ⟨(some 4),1,.move,[.c (.bool false)],none⟩])
 (.seq (.region [oT 5 2 .move [0],
 oT 6 3 (.load true 2) [3],
 oT 7 4 (.call false 136) [5,6],
 ⟨(some 8),8,(.bin .geq),[.t 7,.c (.int .i64 (0))],none⟩,
 oT 4 9 .move [8]])
 (.ret)))
 [.tmp 4] 0 7
def f132.env:Env:=[(136,f136.C)]
def f132.tree (a:(List (aB))×aB):Prop:=f136.ent (fun c1=>(q5 c1)∧((decide ((0:Int)≤(ixL c1)))=(uH a))∧True) (a.1,a.2)
def f132.vc (a:(List (aB))×aB):Prop:=(q5 (a.1,a.2)∧(decide ((0:Int)≤(ixL (a.1,a.2)))=uH a))
theorem f132.of (a:(List (aB))×aB) (h:f132.vc a):f132.tree a:=(f136.ei ⟨h.1,⟨h.2,trivial⟩⟩)
theorem f132.eq (a:(List (aB))×aB):(f132.af a).gives f132.env (f132.args a) (f132.blks a) (f132.res a) (f132.blks' a)=f132.tree a:=by kernel_rfl
def f124.ent (K:((List (aB))×(List (aB)))→Prop) (t:(List (aB))×(List (aB))):Prop:=∃ c:(List (aB))×(List (aB)),SlQ t.1.length c.1.length (gl aD t.1) (gl aD c.1) (SlQ t.2.length c.2.length (gl aD t.2) (gl aD c.2) (K c))
theorem f124.ei {K:((List (aB))×(List (aB)))→Prop} {t:(List (aB))×(List (aB))} (h:K t):f124.ent K t:=⟨t,slQ (rS aD) (slQ (rS aD) (h))⟩
def f124.args (a:(List (aB))×(List (aB))):List D:=[.slice .ro 2 a.1.length (gl aD a.1),.slice .ro 2 a.2.length (gl aD a.2)]
def f124.blks (a:(List (aB))×(List (aB))):List (List D):=[]
def f124.res (a:(List (aB))×(List (aB))):List D:=[.bool (cA a)]
def f124.blks' (a:(List (aB))×(List (aB))):List (List D):=[]
def f124.C:aL:=FnC f124.args f124.blks (fun a=>dY a) f124.res f124.blks'
def f124.S0 (a:(List (aB))×(List (aB))) (x:Int):Tm:=⟨[.slice .ro 2 a.1.length (gl aD a.1),.dead,.dead,.dead,.dead,.dead,.dead,.slice .ro 2 a.2.length (gl aD a.2),.int .i64 (a.2.length:Int),.int .i64 x,.dead,.dead,.dead,.dead,.dead,.dead,.dead,.dead],[],[]⟩
def f124.kills (a:(List (aB))×(List (aB))):List Hint:=[.tell Int (f124.S0 a)]
def f124.cuts (a:(List (aB))×(List (aB))):List (Nat×Σ β:Type,β→Tm):=[]
def f124.af (a:(List (aB))×(List (aB))):AF:=AF.mk (.seq (.region [⟨(some 4),0,.move,[.c (.bool false)],none⟩])
 (.seq (.seq (.region [oT 7 1 .move [1],
 oT 8 2 (.len false) [7],
 ⟨(some 9),3,.move,[.c (.int .i64 (0))],none⟩])
 (.block 0 (.loopT Int (f124.S0 a) 4 21 (.seq (.region [oT 10 4 (.bin .lss) [9,8]])
 (.seq (.cond (.t 10) (.skip) (.exit 0))
 (.seq (.block 1 (.seq (.region [oT 11 5 (.indexAddr 2 none) [7,9],
 oT 12 6 (.load true 2) [11],
 oT 6 7 (.alloc [.str ByteArray.empty,.str ByteArray.empty]) [],
 ⟨none,10,(.store 2),[.t 6,.t 12],none⟩])
 (.seq (.region [oT 13 11 .move [0],
 oT 14 12 (.load true 2) [6],
 oT 15 13 (.call false 132) [13,14],
 oT 16 17 (.un .not) [15]])
 (.cond (.t 16) (.seq (.region [⟨(some 4),18,.move,[.c (.bool false)],none⟩])
 (.ret)) (.skip)))))
 (.region [⟨(some 17),19,(.bin .add),[.t 9,.c (.int .i64 (1))],none⟩,
 oT 9 20 .move [17]])))))))
 (.seq (.region [⟨(some 4),21,.move,[.c (.bool true)],none⟩])
 (.ret))))
 [.tmp 4] 0 16
def f124.env:Env:=[(132,f132.C)]
def f124.tree (a:(List (aB))×(List (aB))):Prop:=∃ (I2:Int→Prop) (μ3:Int→Nat),(∃ x1:Int,SlS aD a.1 (SlS aD a.2 (((a.2.length:Int)=(a.2.length:Int))∧((0:Int)=x1)∧I2 x1)))∧∀ y4:Int,I2 y4→(Br (decide (y4 < (a.2.length:Int))) (Br (decide ((0:Int)≤y4)&&decide (y4 < (a.2.length:Int))) (f132.ent (fun c8=>(q5 c8)∧Br (!(uH c8)) ((false=(cA a))∧True) (Let (wI (y4+(1:Int))) (fun v12:Int=>∃ x13:Int,SlS aD a.1 (SlS aD a.2 (((a.2.length:Int)=(a.2.length:Int))∧(v12=x13)∧I2 x13∧μ3 x13 < μ3 y4))))) (a.1,(at_ a.2 y4))) False) ((true=(cA a))∧True))
def f124.vc (a:(List (aB))×(List (aB))):Prop:=(∃ (I2:Int→Prop) (μ3:Int→Nat),I2 (0:Int)∧∀ y4:Int,I2 y4→((y4 < (a.2.length:Int)→((0:Int)≤y4∧y4 < (a.2.length:Int)∧(q5 (a.1,(at_ a.2 y4))∧((¬((uH (a.1,(at_ a.2 y4)))=true)→(false=cA a))∧(¬(¬((uH (a.1,(at_ a.2 y4)))=true))→(-9223372036854775808≤(y4+(1:Int))∧(y4+(1:Int))≤9223372036854775807∧(I2 (y4+(1:Int))∧μ3 (y4+(1:Int)) < μ3 y4)))))))∧(¬(y4 < (a.2.length:Int))→(true=cA a))))
theorem f124.of (a:(List (aB))×(List (aB))) (h:f124.vc a):f124.tree a:=Exists.elim h (fun I2 h25_=>Exists.elim h25_ (fun μ3 h25=>⟨I2,μ3,⟨(0:Int),SlS.mk  (SlS.mk  (⟨rfl,⟨rfl,h25.1⟩⟩))⟩,fun y4 h27=>br (h25.2 y4 h27) Cnd.dec (fun h5 k23=>chk k23.2.2 Cnd.ix ⟨k23.1,k23.2.1⟩ (fun h7 k21=>(f132.ei ⟨k21.1,br k21.2 (Cnd.not Cnd.b) (fun h9 k18=>⟨k18,trivial⟩) (fun h10 k19=>wrapK.i64 k19 (fun h15 h16 k17=>⟨(y4+(1:Int)),SlS.mk  (SlS.mk  (⟨rfl,⟨rfl,k17⟩⟩))⟩))⟩))) (fun h6 k24=>⟨k24,trivial⟩)⟩))
theorem f124.eq (a:(List (aB))×(List (aB))):(f124.af a).gives f124.env (f124.args a) (f124.blks a) (f124.res a) (f124.blks' a)=f124.tree a:=by kernel_rfl
set_option linter.unusedVariables false
set_option linter.unusedVariables false
set_option linter.unusedVariables false
theorem f136.ok (a:List bK×bK) (h:q5 a):f136.vc a:=by
 obtain ⟨l,q⟩:=a
 have h:l.length≤1048576:=h
 refine ⟨fun y=>0≤y∧y≤(l.length:Int)∧∀ k,k < y.toNat→decide (l.getD k default=q)=false,fun y=>l.length - y.toNat,⟨by omega,by omega,fun k hk=>by simp at hk⟩,fun y hy=>?_⟩
 obtain ⟨g0,g1,g2⟩:=hy
 refine ⟨fun hlt=>⟨g0,hlt,fun c=>?_,fun c=>⟨by simp only at hlt; omega,by simp only at hlt; omega,⟨by omega,by simp only at hlt; omega,fun k hk=>?_⟩,by simp only at hlt ⊢; omega⟩⟩,fun hge=>?_⟩
 ·have e:at_ l y=q:=(Prod.ext c.1 c.2).symm
  unfold ixL
  simp only at hlt ⊢
  rw [xN (p:=fun x=>decide (x=q)) (k:=y.toNat) (by omega) (by rw [decide_eq_true_eq]; exact e) g2]
  simp only
  omega
 ·by_cases he:k=y.toNat
  ·subst he
   rw [decide_eq_false_iff_not]
   intro e
   exact c ⟨by rw [← e]; rfl,by rw [← e]; rfl⟩
  ·exact g2 k (by omega)
 ·unfold ixL
  simp only at hge ⊢
  rw [wM (p:=fun x=>decide (x=q)) fun k hk=>g2 k (by omega)]
theorem zO {α:Type} (l:List α) (p:α→Bool):decide ((0:Int)≤(match l.findIdx? p with | some i=>(i:Int) | none=>-1))=l.any p:=by
 rw [Bool.eq_iff_iff,decide_eq_true_eq,List.any_eq_true]
 cases h:l.findIdx? p with
 | none =>
  have:=List.findIdx?_eq_none_iff.1 h
  simp only
  refine ⟨fun hh=>by omega,fun ⟨x,hx,hp⟩=>by rw [this x hx] at hp; cases hp⟩
 | some i =>
  obtain ⟨hi,hp,_⟩:=List.findIdx?_eq_some_iff_getElem.1 h
  simp only
  exact ⟨fun _=>⟨_,List.getElem_mem hi,hp⟩,fun _=>by omega⟩
theorem f132.ok (a:List bK×bK) (h:q5 a):f132.vc a:=⟨h,zO a.1 fun x=>decide (x=a.2)⟩
theorem tM {a:List bK×List bK}:cA a=true↔∀ i,i < a.2.length→uH (a.1,a.2.getD i default)=true:=by
 unfold cA
 rw [List.all_eq_true]
 constructor
 ·exact fun h i hi=>h _ (sU hi)
 ·intro h x hx
  obtain ⟨i,hi,rfl⟩:=List.mem_iff_getElem.1 hx
  have:=h i hi
  rwa [List.getD_eq_getElem?_getD,List.getElem?_eq_getElem hi] at this
theorem f124.ok (a:List bK×List bK) (h:dY a):f124.vc a:=by
 obtain ⟨l,w⟩:=a
 obtain ⟨h1,h2⟩:=h
 unfold L20 at h2
 simp only at h2
 refine ⟨fun y=>0≤y∧y≤(w.length:Int)∧∀ k,k < y.toNat→uH (l,w.getD k default)=true,fun y=>w.length - y.toNat,⟨by omega,by omega,fun k hk=>by simp at hk⟩,fun y hy=>?_⟩
 obtain ⟨g0,g1,g2⟩:=hy
 refine ⟨fun hlt=>⟨g0,hlt,h1,fun c=>?_,fun c=>⟨by simp only at hlt; omega,by simp only at hlt; omega,⟨by omega,by simp only at hlt; omega,fun k hk=>?_⟩,by simp only at hlt ⊢; omega⟩⟩,fun hge=>?_⟩
 ·refine (Bool.eq_false_iff.2 fun hh=>c ?_).symm
  exact tM.1 hh y.toNat (by simp only at hlt ⊢; omega)
 ·by_cases he:k=y.toNat
  ·subst he; exact Classical.not_not.1 c
  ·exact g2 k (by omega)
 ·exact (tM.2 fun i hi=>g2 i (by simp only at hi hge; omega)).symm
end Go.Abs
