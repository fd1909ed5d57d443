/- Functions, and what the code asks of them: POrd. -/
import Derived.KernelRfl
import Derived.Test.YtjlehbennimkgabOrderRanksP4
import Derived.Test.YtjlehbennimkgabOrderRanksP5
import Derived.Test.YtjlehbennimkgabOrderRanksP6
import Derived.Test.YtjlehbennimkgabOrderRanksP9
import Derived.Test.YtjlehbennimkgabOrderRanksP10
import Derived.Test.YtjlehbennimkgabOrderRanksP12
import Derived.Test.YtjlehbennimkgabOrderRanksP14
import Derived.Test.YtjlehbennimkgabOrderRanksP15
import Derived.Test.YtjlehbennimkgabOrderRanksP17
import Derived.Test.YtjlehbennimkgabOrderRanksP18
import Derived.Test.YtjlehbennimkgabOrderRanksP19
set_option linter.unusedVariables false
set_option linter.unusedSimpArgs false
/- Layer 14: facts of lists. -/
namespace Go.Abs
open Go
/-! Maps with texts as keys. -/
section
variable {α:Type} [Inhabited α]
theorem x5 (k:ByteArray):iN ([]:List (ByteArray×α)) k=false:=decide_eq_false (Nat.lt_irrefl 0)
theorem jM (x:ByteArray×α) (l:List (ByteArray×α)) (k:ByteArray):iN (x::l) k=(decide (x.1=k) || iN l k):=by
 obtain ⟨a,b⟩:=x
 unfold iN
 rw [List.length_cons,lT]
 by_cases h:a=k
 ·rw [if_pos h,decide_eq_true (Nat.succ_pos _),decide_eq_true h]
  rfl
 ·rw [if_neg h,decide_eq_false h,Bool.false_or]
  exact decide_eq_decide.2 (by omega)
theorem mB (x:ByteArray×α) (l:List (ByteArray×α)) (k:ByteArray):mat (x::l) k=if x.1=k then x.2 else mat l k:=by
 obtain ⟨a,b⟩:=x
 unfold mat
 rw [List.length_cons,lT]
 by_cases h:a=k
 ·rw [if_pos h,if_pos h]
  rfl
 ·rw [if_neg h,if_neg h,List.getD_cons_succ]
theorem sE (k q:ByteArray) (v:α):∀ m:List (ByteArray×α),iN (dL m k v) q=(decide (k=q) || iN m q)
 | []=>by
  show iN [(k,v)] q=_
  rw [jM]
 | (a,b)::m=>by
  unfold dL
  by_cases h:a=k
  ·rw [if_pos h,jM,jM,h]
   simp only
   cases decide (k=q) <;> rfl
  ·rw [if_neg h,jM,sE k q v m,jM]
   simp only
   cases decide (k=q) <;> cases decide (a=q) <;> rfl
theorem w3 (k q:ByteArray) (v:α):∀ m:List (ByteArray×α),mat (dL m k v) q=if k=q then v else mat m q
 | []=>by
  show mat [(k,v)] q=_
  rw [mB]
 | (a,b)::m=>by
  unfold dL
  by_cases h:a=k
  ·rw [if_pos h,mB,mB,h]
   simp only
   split <;> rfl
  ·rw [if_neg h,mB,w3 k q v m,mB]
   simp only
   by_cases c:k=q
   ·rw [if_pos c,if_pos c,if_neg fun e=>h (e.trans c.symm)]
   ·rw [if_neg c,if_neg c]
end
theorem nN {α:Type} [Inhabited α] {l:List α} {i:Nat} (h:i < l.length):l.take (i+1)=l.take i++[l.getD i default]:=by
 rw [dR h]
 exact (List.take_append_getElem h).symm
theorem n4 (n:Nat):t7 (n+1)=t7 n++[(n:Int)]:=by
 unfold t7
 rw [List.range_succ,List.map_append]
 rfl
theorem vO {n:Nat} {i:Int}:i∈t7 n↔0≤i∧i < n:=by
 unfold t7
 rw [List.mem_map]
 constructor
 ·rintro ⟨k,hk,rfl⟩
  rw [List.mem_range] at hk
  exact ⟨Int.natCast_nonneg _,by show (k:Int) < n; omega⟩
 ·intro ⟨h0,h1⟩
  exact ⟨i.toNat,List.mem_range.2 (by omega),by show ((i.toNat:Nat):Int)=i; omega⟩
theorem aBU (n:Nat):(t7 n).length=n:=by
 unfold t7
 rw [List.length_map,List.length_range]
theorem yD (n:Nat):(t7 n).Nodup:=by
 induction n with
 | zero=>exact List.nodup_nil
 | succ n ih =>
  rw [n4]
  refine List.nodup_append.2 ⟨ih,List.nodup_cons.2 ⟨List.not_mem_nil,List.nodup_nil⟩,fun a ha b hb=>?_⟩
  rw [List.mem_singleton.1 hb]
  have:=(vO.1 ha).2
  omega
theorem vE {α:Type} (lt:α→α→Bool) (x:α):∀ l,(sI lt x l).Perm (x::l)
 | []=>List.Perm.refl _
 | y::l=>by
  simp only [sI]
  split
  ·exact ((vE lt x l).cons y).trans (List.Perm.swap x y l)
  ·exact List.Perm.refl _
theorem rT {α:Type} (lt:α→α→Bool):∀ l,(bB lt l).Perm l
 | []=>List.Perm.refl _
 | x::l=>(vE lt x _).trans ((rT lt l).cons x)
/-! Places. -/
theorem aDC (js:List aT):Weak (bZ js):=by
 have key:∀ i j,bZ js i j=true↔(at_ js j).1.2.2.1 < (at_ js i).1.2.2.1∨((at_ js j).1.2.2.1=(at_ js i).1.2.2.1∧(at_ js i).2.1 < (at_ js j).2.1):=fun i j=>by
  unfold bZ jS s7 fG
  rw [decide_eq_true_eq]
  simp only [orI]
  constructor
  ·intro h
   split at h <;> split at h <;> (try split at h) <;> (try split at h) <;> (try split at h) <;> omega
  ·intro h
   split <;> split <;> (try split) <;> (try split) <;> (try split) <;> omega
 have kf:∀ i j,bZ js i j=false↔¬((at_ js j).1.2.2.1 < (at_ js i).1.2.2.1∨((at_ js j).1.2.2.1=(at_ js i).1.2.2.1∧(at_ js i).2.1 < (at_ js j).2.1)):=fun i j=>by
  rw [← key]
  simp
 refine ⟨fun {x y} h=>?_,fun {x y z} h1 h2=>?_⟩
 ·rw [key] at h
  rw [kf]
  omega
 ·rw [kf] at h1 h2 ⊢
  omega
def dT (js:List aT) (k:Nat):List Int:=(t7 k).filter fun i=>dS (at_ js i)
theorem wX {js:List aT} {k:Nat} (h:dS (at_ js k)=true):dT js (k+1)=dT js k++[(k:Int)]:=by
 unfold dT
 rw [n4,List.filter_append,List.filter_cons_of_pos (p:=fun i=>dS (at_ js i)) h]
 rfl
theorem xP {js:List aT} {k:Nat} (h:¬dS (at_ js k)=true):dT js (k+1)=dT js k:=by
 unfold dT
 rw [n4,List.filter_append,List.filter_cons_of_neg (p:=fun i=>dS (at_ js i)) h]
 exact List.append_nil _
theorem oX (js:List aT) (k:Nat):(dT js k).length≤k:=Nat.le_trans (List.length_filter_le _ _) (Nat.le_of_eq (aBU k))
theorem oV {js:List aT} {k:Nat} {i:Int}:i∈dT js k↔(0≤i∧i < k)∧dS (at_ js i)=true:=by
 unfold dT
 rw [List.mem_filter,vO]
theorem zZ {js:List aT} {i:Int}:i∈cT js↔(0≤i∧i < (js.length:Int))∧dS (at_ js i)=true:=by
 unfold cT
 rw [p9 (aDC js)]
 exact oV
theorem kW (js:List aT):(cT js).Nodup:=(rT _ _).symm.nodup (List.Pairwise.filter _ (yD _))
theorem mE (js:List aT):(cT js).length≤js.length:=by
 unfold cT
 rw [cJ]
 exact oX js js.length
theorem sO (js:List aT):InR js (cT js):=fun _ h=>(zZ.1 h).1
theorem aB9 (js:List aT):Sd (bZ js) (cT js):=jX (aDC js) _
theorem aC3 (l:List aT) (x:aT) (g:ByteArray):eJ (l++[x],g)=eJ (l,g)+if aS x=g then 1 else 0:=by
 unfold eJ
 simp only
 rw [List.filter_append,List.length_append]
 by_cases c:aS x=g
 ·rw [List.filter_cons_of_pos (p:=fun j=>decide (aS j=g)) (decide_eq_true c),if_pos c]
  simp
 ·rw [List.filter_cons_of_neg (p:=fun j=>decide (aS j=g)) (by simpa using c),if_neg c]
  simp
theorem aBK (l:List aT) (g:ByteArray):0≤eJ (l,g)∧eJ (l,g)≤(l.length:Int):=by
 have:=List.length_filter_le (fun j=>decide (aS j=g)) l
 unfold eJ
 simp only
 omega
theorem aD4 {l:List aT} {x:aT} (h:x∈l):0 < eJ (l,aS x):=by
 have:0 < (l.filter fun j=>decide (aS j=aS x)).length:=List.length_pos_of_mem (List.mem_filter.2 ⟨h,decide_eq_true rfl⟩)
 unfold eJ
 simp only
 omega
theorem kT (js:List aT) (l:List Int) (n:Nat):eS js l (n+1)=eS js l n++lN js l n:=by
 unfold eS
 rw [List.range_succ,List.flatMap_append]
 simp
theorem uS (js:List aT) (l:List Int) (n:Nat):(lN js l n).length≤1:=by
 unfold lN
 split
 ·exact Nat.le_refl _
 ·split
  ·exact Nat.le_refl _
  ·exact Nat.zero_le _
theorem qE (js:List aT) (l:List Int) (n:Nat):(eS js l n).length≤n:=by
 induction n with
 | zero=>exact Nat.le_refl _
 | succ n ih =>
  rw [kT,List.length_append]
  have:=uS js l n
  omega
theorem qS {l:List Int} (hn:l.Nodup) {j:Nat} (hj:j < l.length) {q:Int→Bool} (hq:q (l.getD j default)=true) :
  0 < (l.filter q).length∧((l.getD j default=(l.filter q).getD 0 default)↔∀ k,k < j→q (l.getD k default)=false):=by
 have hs:l=l.take j++l.getD j default::l.drop (j+1):=by
  rw [dR hj,← List.drop_eq_getElem_cons hj,List.take_append_drop]
 have hf:l.filter q=(l.take j).filter q++l.getD j default::(l.drop (j+1)).filter q:=by
  conv=>lhs; rw [hs]
  rw [List.filter_append,List.filter_cons_of_pos hq]
 refine ⟨by rw [hf,List.length_append,List.length_cons]; omega,?_⟩
 rw [hf]
 cases hA:(l.take j).filter q with
 | nil =>
  refine ⟨fun _ k hk=>?_,fun _=>rfl⟩
  cases hc:q (l.getD k default) with
  | false=>rfl
  | true =>
   have:l.getD k default∈(l.take j).filter q:=by
    refine List.mem_filter.2 ⟨?_,hc⟩
    rw [dR (by omega)]
    exact List.mem_take_iff_getElem.2 ⟨k,by omega,rfl⟩
   rw [hA] at this
   cases this
 | cons x A =>
  have hx:x∈(l.take j).filter q:=by rw [hA]; exact List.mem_cons_self ..
  obtain ⟨hx1,hx2⟩:=List.mem_filter.1 hx
  obtain ⟨k,hk,hkx⟩:=List.mem_take_iff_getElem.1 hx1
  have hkj:k < j:=by omega
  refine ⟨fun e=>?_,fun h=>?_⟩
  ·have e:l.getD j default=x:=e
   have e2:l[k]=l[j]:=by rw [hkx,← e,dR hj]
   exact absurd e2 (List.pairwise_iff_getElem.1 hn k j (by omega) hj hkj)
  ·have:=h k hkj
   rw [dR (by omega),hkx,hx2] at this
   cases this
def f92.ent (K:(List (aB))→Prop) (t:List (aB)):Prop:=∃ c:List (aB),SlQ t.length c.length (gl aD t) (gl aD c) (K c)
theorem f92.ei {K:(List (aB))→Prop} {t:List (aB)} (h:K t):f92.ent K t:=⟨t,slQ (Rds.self (enc:=aD)) (h)⟩
def f92.args (a:List (aB)):List D:=[.slice .ro 13 a.length (gl aD a)]
def f92.blks (a:List (aB)):List (List D):=[]
def f92.res (a:List (aB)):List D:=[.bool (iX a)]
def f92.blks' (a:List (aB)):List (List D):=[]
def f92.C:aW:=FnC f92.args f92.blks (fun a=>L20 a) f92.res f92.blks'
set_option linter.unusedVariables false
def f92.S0 (a:List (aB)) (x:Int):Tm:=⟨[.slice .ro 13 a.length (gl aD a),.dead,.dead,.dead,.dead,.dead,.dead,.dead,.int .i64 (a.length:Int),.int .i64 x,.dead,.dead,.dead,.dead,.dead,.dead,.dead,.dead,.dead,.dead,.dead],[],[]⟩
def f92.kills (a:List (aB)):List iG:=[.tell Int (f92.S0 a)]
def f92.cuts (a:List (aB)):List (Nat×Σ β:Type,β→Tm):=[]
def f92.af (a:List (aB)):AF:=AF.mk (.seq (.region [⟨(some 2),0,.move,[.c (.bool false)],none⟩])
 (.seq (.seq (.region [oT 4 1 .move [0],
 oT 5 2 (.len false) [4],
 ⟨(some 6),3,(.bin .gtr),[.t 5,.c (.int .i64 (100))],none⟩])
 (.cond (.t 6) (.seq (.region [⟨(some 2),4,.move,[.c (.bool false)],none⟩])
 (.ret)) (.skip)))
 (.seq (.seq (.region [oT 7 5 .move [0],
 oT 8 6 (.len false) [7],
 ⟨(some 9),7,.move,[.c (.int .i64 (0))],none⟩])
 (.block 0 (.loopT Int (f92.S0 a) 8 22 (.seq (.region [oT 10 8 (.bin .lss) [9,8]])
 (.seq (.cond (.t 10) (.skip) (.exit 0))
 (.seq (.block 1 (.seq (.region [oT 11 9 .move [9],
 oT 3 10 .move [11]])
 (.seq (.region [oT 12 11 .move [0],
 oT 13 12 .move [3],
 oT 14 13 (.indexAddr 13 none) [12,13],
 oT 15 14 (.fieldAddr 0) [14],
 oT 16 15 (.fieldAddr 8) [15],
 oT 17 16 (.load false 1) [16],
 oT 18 17 (.len true) [17],
 ⟨(some 19),18,(.bin .gtr),[.t 18,.c (.int .i64 (1000))],none⟩])
 (.cond (.t 19) (.seq (.region [⟨(some 2),19,.move,[.c (.bool false)],none⟩])
 (.ret)) (.skip)))))
 (.region [⟨(some 20),20,(.bin .add),[.t 9,.c (.int .i64 (1))],none⟩,
 oT 9 21 .move [20]])))))))
 (.seq (.region [⟨(some 2),22,.move,[.c (.bool true)],none⟩])
 (.ret)))))
 [.tmp 2] 0 20
def f92.env:Env:=[]
def f92.tree (a:List (aB)):Prop:=Br (decide ((100:Int) < (a.length:Int))) ((false=(iX a))∧True) (∃ (I5:Int→Prop) (μ6:Int→Nat),(∃ x4:Int,SlS aD a (((a.length:Int)=(a.length:Int))∧((0:Int)=x4)∧I5 x4))∧∀ y7:Int,I5 y7→(Br (decide (y7 < (a.length:Int))) (Br (decide ((0:Int)≤y7)&&decide (y7 < (a.length:Int))) (Br (decide ((1000:Int) < ((((at_ a y7).1).2.2.2.2.2.2.1).size:Int))) ((false=(iX a))∧True) (Let (IntKind.i64.wrap (y7+(1:Int))) (fun v14:Int=>∃ x15:Int,SlS aD a (((a.length:Int)=(a.length:Int))∧(v14=x15)∧I5 x15∧μ6 x15 < μ6 y7)))) False) ((true=(iX a))∧True)))
def f92.vc (a:List (aB)):Prop:=(((100:Int) < (a.length:Int)→(false=iX a))∧(¬((100:Int) < (a.length:Int))→(∃ (I5:Int→Prop) (μ6:Int→Nat),I5 (0:Int)∧∀ y7:Int,I5 y7→((y7 < (a.length:Int)→((0:Int)≤y7∧y7 < (a.length:Int)∧(((1000:Int) < ((((at_ a y7).1).2.2.2.2.2.2.1).size:Int)→(false=iX a))∧(¬((1000:Int) < ((((at_ a y7).1).2.2.2.2.2.2.1).size:Int))→(-9223372036854775808≤(y7+(1:Int))∧(y7+(1:Int))≤9223372036854775807∧(I5 (y7+(1:Int))∧μ6 (y7+(1:Int)) < μ6 y7))))))∧(¬(y7 < (a.length:Int))→(true=iX a))))))
set_option maxRecDepth 100000 in
set_option maxHeartbeats 2000000 in
theorem f92.of (a:List (aB)) (h:f92.vc a):f92.tree a:=br h Cnd.dec (fun h1 k29=>⟨k29,trivial⟩) (fun h2 k30=>Exists.elim k30 (fun I5 h26_=>Exists.elim h26_ (fun μ6 h26=>⟨I5,μ6,⟨(0:Int),SlS.mk  (⟨rfl,⟨rfl,h26.1⟩⟩)⟩,fun y7 h28=>br (h26.2 y7 h28) Cnd.dec (fun h8 k24=>chk k24.2.2 Cnd.ix ⟨k24.1,k24.2.1⟩ (fun h10 k22=>br k22 Cnd.dec (fun h11 k20=>⟨k20,trivial⟩) (fun h12 k21=>wrapK.i64 k21 (fun h17 h18 k19=>⟨(y7+(1:Int)),SlS.mk  (⟨rfl,⟨rfl,k19⟩⟩)⟩)))) (fun h9 k25=>⟨k25,trivial⟩)⟩)))
theorem f92.eq (a:List (aB)):(f92.af a).gives f92.env (f92.args a) (f92.blks a) (f92.res a) (f92.blks' a)=f92.tree a:=by kernel_rfl
def f93.ent (K:(List (aB))→Prop) (t:List (aB)):Prop:=∃ c:List (aB),SlQ t.length c.length (gl aD t) (gl aD c) (K c)
theorem f93.ei {K:(List (aB))→Prop} {t:List (aB)} (h:K t):f93.ent K t:=⟨t,slQ (Rds.self (enc:=aD)) (h)⟩
def f93.args (a:List (aB)):List D:=[.slice .ro 13 a.length (gl aD a)]
def f93.blks (a:List (aB)):List (List D):=[]
def f93.res (a:List (aB)):List D:=[.slice .ro 1 ((bO a).length) (gl aI (bO a))]
def f93.blks' (a:List (aB)):List (List D):=[]
def f93.C:aW:=FnC f93.args f93.blks (fun a=>fV a) f93.res f93.blks'
def f117.ent (K:(List (Int))→Prop) (t:List (Int)):Prop:=∃ c:List (Int),SlQ t.length c.length (gl aC t) (gl aC c) (K c)
theorem f117.ei {K:(List (Int))→Prop} {t:List (Int)} (h:K t):f117.ent K t:=⟨t,slQ (Rds.self (enc:=aC)) (h)⟩
def f117.args (a:List (Int)):List D:=[.slice .ro 1 a.length (gl aC a)]
def f117.blks (a:List (Int)):List (List D):=[]
def f117.res (a:List (Int)):List D:=[.slice .ro 1 ((dW a).length) (gl aC (dW a))]
def f117.blks' (a:List (Int)):List (List D):=[]
def f117.C:aW:=FnC f117.args f117.blks (fun a=>L20 a) f117.res f117.blks'
def f93.S0 (a:List (aB)) (x:Int×(List (Int))×(List (ByteArray×aH))):Tm:=⟨[.dead,.ptr 1000000 0,.dead,.msl 1000003 1 (List.length x.2.1),.mref 1000004,.dead,.dead,.dead,.dead,.dead,.dead,.dead,.dead,.dead,.dead,.dead,.dead,.slice .ro 13 a.length (gl aD a),.int .i64 (a.length:Int),.int .i64 x.1,.dead,.dead,.dead,.dead,.dead,.dead,.dead,.dead,.dead,.dead,.dead,.dead,.dead,.dead,.dead,.dead,.dead,.dead,.dead,.dead,.dead,.dead,.dead,.dead,.dead,.dead,.dead,.dead,.dead,.dead,.dead,.dead,.dead,.dead,.dead,.dead,.dead,.dead,.dead,.dead,.dead,.dead,.dead,.dead,.dead,.dead,.dead,.dead,.dead,.dead,.dead,.dead,.dead,.dead,.dead,.dead,.dead,.dead,.dead,.dead,.dead,.dead,.dead,.dead,.dead,.dead,.dead,.dead,.dead,.dead,.dead,.dead,.dead,.dead,.dead,.dead,.dead,.dead,.dead,.dead,.dead,.dead,.dead,.dead,.dead,.dead,.dead,.dead,.dead,.dead,.dead,.dead,.dead,.dead,.dead,.dead,.dead,.dead,.dead,.dead,.dead,.dead,.dead],[(1000000,false,[.slice .ro 13 a.length (gl aD a)]),(1000003,false,[.dead,.arr true 1 (List.length x.2.1) (gl aC x.2.1)]),(1000004,false,[.nilp,.mp true (List.length x.2.2) (mks x.2.2) (mvs aF x.2.2)])],[]⟩
def f93.S1 (a:List (aB)) (x:(List (Int))×(List (Int))×Int×Int×(List (ByteArray×aH))):Tm:=⟨[.dead,.ptr 1000000 0,.dead,.slice .ro 1 x.1.length (gl aC x.1),.mref 1000004,.dead,.dead,.dead,.dead,.dead,.dead,.dead,.dead,.dead,.dead,.dead,.dead,.dead,.dead,.dead,.dead,.dead,.dead,.dead,.dead,.dead,.dead,.dead,.dead,.dead,.dead,.dead,.dead,.dead,.dead,.dead,.dead,.dead,.dead,.dead,.dead,.dead,.dead,.dead,.dead,.dead,.dead,.dead,.slice .ro 1 x.2.1.length (gl aC x.2.1),.int .i64 x.2.2.1,.int .i64 x.2.2.2.1,.dead,.dead,.dead,.dead,.dead,.dead,.dead,.dead,.dead,.dead,.dead,.dead,.dead,.dead,.dead,.dead,.dead,.dead,.dead,.dead,.dead,.dead,.dead,.dead,.dead,.dead,.dead,.dead,.dead,.dead,.dead,.dead,.dead,.dead,.dead,.dead,.dead,.dead,.dead,.dead,.dead,.dead,.dead,.dead,.dead,.dead,.dead,.dead,.dead,.dead,.dead,.dead,.dead,.dead,.dead,.dead,.dead,.dead,.dead,.dead,.dead,.dead,.dead,.dead,.dead,.dead,.dead,.dead,.dead,.dead,.dead,.dead],[(1000000,true,[.slice .ro 13 a.length (gl aD a)]),(1000004,false,[.nilp,.mp true (List.length x.2.2.2.2) (mks x.2.2.2.2) (mvs aF x.2.2.2.2)])],[]⟩
def f93.S2 (a:List (aB)) (x:(List (List (Int)))×(List (Int))×Int×Int×(List (ByteArray×aH))):Tm:=⟨[.dead,.ptr 1000000 0,.dead,.dead,.mref 1000004,.dead,.dead,.dead,.dead,.dead,.dead,.slice (.own 1000108) 1 x.1.length (gl aI x.1),.dead,.dead,.dead,.dead,.dead,.dead,.dead,.dead,.dead,.dead,.dead,.dead,.dead,.dead,.dead,.dead,.dead,.dead,.dead,.dead,.dead,.dead,.dead,.dead,.dead,.dead,.dead,.dead,.dead,.dead,.dead,.dead,.dead,.dead,.dead,.dead,.dead,.dead,.dead,.dead,.dead,.dead,.dead,.dead,.dead,.dead,.dead,.dead,.dead,.dead,.dead,.dead,.dead,.dead,.dead,.dead,.dead,.dead,.dead,.dead,.dead,.dead,.dead,.dead,.dead,.slice .ro 1 x.2.1.length (gl aC x.2.1),.int .i64 x.2.2.1,.int .i64 x.2.2.2.1,.dead,.dead,.dead,.dead,.dead,.dead,.dead,.dead,.dead,.dead,.dead,.dead,.dead,.dead,.dead,.dead,.dead,.dead,.dead,.dead,.dead,.dead,.dead,.dead,.dead,.dead,.dead,.dead,.dead,.dead,.dead,.dead,.dead,.dead,.dead,.dead,.dead,.dead,.dead,.dead,.dead,.dead,.dead],[(1000000,true,[.slice .ro 13 a.length (gl aD a)]),(1000004,false,[.dead,.mp true (List.length x.2.2.2.2) (mks x.2.2.2.2) (mvs aF x.2.2.2.2)])],[(1000108,1,x.1.length)]⟩
def f93.kills (a:List (aB)):List iG:=[.tell (Int×(List (Int))×(List (ByteArray×aH))) (f93.S0 a),
 .tell ((List (Int))×(List (Int))×Int×Int×(List (ByteArray×aH))) (f93.S1 a),
 .tell ((List (List (Int)))×(List (Int))×Int×Int×(List (ByteArray×aH))) (f93.S2 a)]
def f93.cuts (a:List (aB)):List (Nat×Σ β:Type,β→Tm):=[(999999,⟨Unit,fun x=>⟨[],[],[]⟩⟩),
 (1000003000001,⟨Unit,fun x=>⟨[],[],[]⟩⟩),
 (2000003000013,⟨Unit,fun x=>⟨[],[],[]⟩⟩)]
def f93.af (a:List (aB)):AF:=AF.mk (.seq (.region [oT 1 1000000 .box [0],
 oT 2 1000001 (.nilSl 1) []])
 (.seq (.region [oT 3 1000002 (.nilSl 1) []])
 (.seq (.thaw 1000003 3) (.seq (.region [oT 16 1000004 (.mkMap true true) [],
 oT 4 1000005 .move [16]])
 (.seq (.seq (.region [oT 17 1000006 (.load false 1) [1],
 oT 18 1000007 (.len false) [17],
 ⟨(some 19),1000008,.move,[.c (.int .i64 (0))],none⟩])
 (.block 0 (.loopT (Int×(List (Int))×(List (ByteArray×aH))) (f93.S0 a) 1000009 1000063 (.seq (.region [oT 20 1000009 (.bin .lss) [19,18]])
 (.seq (.cond (.t 20) (.skip) (.exit 0))
 (.seq (.block 1 (.seq (.region [oT 21 1000010 .move [19],
 oT 22 1000011 (.indexAddr 13 none) [17,19],
 oT 23 1000012 (.load true 13) [22],
 oT 6 1000013 (.alloc [.str ByteArray.empty,.str ByteArray.empty,.int .i64 (0),.int .i64 (0),.int .i64 (0),.int .i64 (0),.slice (.own 0) 2 0 dA,.str ByteArray.empty,.str ByteArray.empty,.int .i64 (0),.int .i64 (0),.str ByteArray.empty,.int .i64 (0)]) [],
 oT 5 1000027 .move [21],
 ⟨none,1000028,(.store 13),[.t 6,.t 23],none⟩])
 (.seq (.region [oT 24 1000029 .move [4],
 oT 25 1000030 (.fieldAddr 0) [6],
 oT 26 1000031 (.fieldAddr 8) [25],
 oT 27 1000032 (.load false 1) [26],
 oT 28 1000033 (.mapGet false true [.int .i64 (0),.slice .full 1 0 dA]) [24,27],
 oT 7 1000036 (.alloc [.int .i64 (0),.slice (.own 0) 1 0 dA]) [],
 ⟨none,1000039,(.store 2),[.t 7,.t 28],none⟩])
 (.seq (.region [oT 29 1000040 (.fieldAddr 0) [7],
 oT 30 1000041 (.load false 1) [29],
 ⟨(some 31),1000042,(.bin .add),[.t 30,.c (.int .i64 (1))],none⟩,
 oT 32 1000043 (.fieldAddr 0) [7],
 ⟨none,1000044,(.store 1),[.t 32,.t 31],none⟩])
 (.seq (.region [oT 33 1000045 .move [4],
 oT 34 1000046 (.fieldAddr 0) [6],
 oT 35 1000047 (.fieldAddr 8) [34],
 oT 36 1000048 (.load false 1) [35],
 oT 37 1000049 (.load true 2) [7],
 ⟨none,1000050,.mapSet,[.t 33,.t 36,.t 37],none⟩])
 (.seq (.region [oT 38 1000051 (.load true 13) [6],
 oT 39 1000052 (.call false 33) [38]])
 (.cond (.t 39) (.region [oT 40 1000056 .move [3],
 oT 41 1000057 .move [5],
 oT 42 1000058 (.buildSlice 1 1 [.int .i64 (0)] [(0,1)]) [41],
 oT 43 1000059 (.append 1 8) [40,42],
 oT 3 1000060 .move [43]]) (.skip))))))))
 (.region [⟨(some 44),1000061,(.bin .add),[.t 19,.c (.int .i64 (1))],none⟩,
 oT 19 1000062 .move [44]])))))))
 (.seq (.region [oT 45 1000063 .move [3],
 oT 46 1000064 (.mkfunc 115 1000000) [1],
 oT 47 1000065 (.call true 114) [45,46]])
 (.seq (.frz 3) (.seq (.seq (.region [oT 48 1000069 .move [3],
 oT 49 1000070 (.len false) [48],
 ⟨(some 50),1000071,.move,[.c (.int .i64 (0))],none⟩])
 (.block 2 (.loopT ((List (Int))×(List (Int))×Int×Int×(List (ByteArray×aH))) (f93.S1 a) 1000072 1000108 (.seq (.region [oT 51 1000072 (.bin .lss) [50,49]])
 (.seq (.cond (.t 51) (.skip) (.exit 2))
 (.seq (.block 3 (.seq (.region [oT 52 1000073 (.indexAddr 1 none) [48,50],
 oT 53 1000074 (.load false 1) [52],
 oT 9 1000075 .move [53]])
 (.seq (.region [oT 54 1000076 .move [4],
 oT 55 1000077 (.load false 1) [1],
 oT 56 1000078 .move [9],
 oT 57 1000079 (.indexAddr 13 none) [55,56],
 oT 58 1000080 (.fieldAddr 0) [57],
 oT 59 1000081 (.fieldAddr 8) [58],
 oT 60 1000082 (.load false 1) [59],
 oT 61 1000083 (.mapGet false true [.int .i64 (0),.slice .full 1 0 dA]) [54,60],
 oT 10 1000086 (.alloc [.int .i64 (0),.slice (.own 0) 1 0 dA]) [],
 ⟨none,1000089,(.store 2),[.t 10,.t 61],none⟩])
 (.seq (.region [oT 62 1000090 (.fieldAddr 1) [10],
 oT 63 1000091 (.load false 1) [62],
 oT 64 1000092 .move [9],
 oT 65 1000093 (.buildSlice 1 1 [.int .i64 (0)] [(0,1)]) [64],
 oT 66 1000094 (.append 1 8) [63,65],
 oT 67 1000095 (.fieldAddr 1) [10],
 ⟨none,1000096,(.store 1),[.t 67,.t 66],none⟩])
 (.region [oT 68 1000097 .move [4],
 oT 69 1000098 (.load false 1) [1],
 oT 70 1000099 .move [9],
 oT 71 1000100 (.indexAddr 13 none) [69,70],
 oT 72 1000101 (.fieldAddr 0) [71],
 oT 73 1000102 (.fieldAddr 8) [72],
 oT 74 1000103 (.load false 1) [73],
 oT 75 1000104 (.load true 2) [10],
 ⟨none,1000105,.mapSet,[.t 68,.t 74,.t 75],none⟩])))))
 (.region [⟨(some 76),1000106,(.bin .add),[.t 50,.c (.int .i64 (1))],none⟩,
 oT 50 1000107 .move [76]])))))))
 (.seq (.region [oT 11 1000108 (.nilSl 1) []])
 (.seq (.seq (.region [oT 77 1000109 .move [3],
 oT 78 1000110 (.len false) [77],
 ⟨(some 79),1000111,.move,[.c (.int .i64 (0))],none⟩])
 (.block 4 (.loopT ((List (List (Int)))×(List (Int))×Int×Int×(List (ByteArray×aH))) (f93.S2 a) 1000112 1000179 (.seq (.region [oT 80 1000112 (.bin .lss) [79,78]])
 (.seq (.cond (.t 80) (.skip) (.exit 4))
 (.seq (.block 5 (.seq (.region [oT 81 1000113 (.indexAddr 1 none) [77,79],
 oT 82 1000114 (.load false 1) [81],
 oT 13 1000115 .move [82]])
 (.seq (.region [oT 83 1000116 (.load false 1) [1],
 oT 84 1000117 .move [13],
 oT 85 1000118 (.indexAddr 13 none) [83,84],
 oT 86 1000119 (.fieldAddr 0) [85],
 oT 87 1000120 (.load true 10) [86],
 oT 14 1000121 (.alloc [.str ByteArray.empty,.str ByteArray.empty,.int .i64 (0),.int .i64 (0),.int .i64 (0),.int .i64 (0),.slice (.own 0) 2 0 dA,.str ByteArray.empty,.str ByteArray.empty,.int .i64 (0)]) [],
 ⟨none,1000132,(.store 10),[.t 14,.t 87],none⟩])
 (.seq (.region [oT 88 1000133 .move [4],
 oT 89 1000134 (.fieldAddr 8) [14],
 oT 90 1000135 (.load false 1) [89],
 oT 91 1000136 (.mapGet false true [.int .i64 (0),.slice .full 1 0 dA]) [88,90],
 oT 15 1000139 (.alloc [.int .i64 (0),.slice (.own 0) 1 0 dA]) [],
 ⟨none,1000142,(.store 2),[.t 15,.t 91],none⟩])
 (.block 6 (.seq (.region [oT 93 1000143 (.fieldAddr 8) [14],
 oT 94 1000144 (.load false 1) [93],
 ⟨(some 95),1000145,(.bin .eql),[.t 94,.c (.str ByteArray.empty)],none⟩,
 oT 92 1000146 .move [95]])
 (.cond (.t 92) (.region [oT 96 1000147 .move [11],
 oT 97 1000148 .move [13],
 oT 98 1000149 (.buildSlice 1 1 [.int .i64 (0)] [(0,1)]) [97],
 oT 99 1000150 (.buildSlice 1 1 [.slice .full 1 0 dA] [(0,1)]) [98],
 oT 100 1000151 (.append 1 24) [96,99],
 oT 11 1000152 .move [100]]) (.seq (.region [oT 102 1000153 .move [13],
 oT 103 1000154 (.fieldAddr 1) [15],
 oT 104 1000155 (.load false 1) [103],
 ⟨(some 105),1000156,(.indexAddr 1 none),[.t 104,.c (.int .i64 (0))],none⟩,
 oT 106 1000157 (.load false 1) [105],
 oT 107 1000158 (.bin .eql) [102,106],
 oT 108 1000159 .move [107],
 oG 109 1000160 (.fieldAddr 0) [15] 108 true,
 oG 110 1000161 (.load false 1) [109] 108 true,
 oG 111 1000162 (.fieldAddr 9) [14] 108 true,
 oG 112 1000163 (.load false 1) [111] 108 true,
 oG 113 1000164 (.bin .geq) [110,112] 108 true,
 ⟨(some 114),1000165,.pick,[.t 108,.t 113,.c (.bool false)],none⟩,
 oT 101 1000166 .move [114]])
 (.cond (.t 101) (.region [oT 115 1000167 .move [11],
 oT 116 1000168 (.fieldAddr 1) [15],
 oT 117 1000169 (.load false 1) [116],
 oT 118 1000170 (.call true 117) [117],
 oT 119 1000174 (.buildSlice 1 1 [.slice .full 1 0 dA] [(0,1)]) [118],
 oT 120 1000175 (.append 1 24) [115,119],
 oT 11 1000176 .move [120]]) (.skip))))))))))
 (.region [⟨(some 121),1000177,(.bin .add),[.t 79,.c (.int .i64 (1))],none⟩,
 oT 79 1000178 .move [121]])))))))
 (.seq (.region [oT 122 1000179 .move [11],
 oT 2 1000180 .move [122]])
 (.ret))))))))))))
 [.tmp 2] 0 122
def f93.env:Env:=[(33,f33.C),(114,f114.C),(117,f117.C)]
def f93.tree (a:List (aB)):Prop:=∃ (I2:(Int×(List (Int))×(List (ByteArray×aH)))→Prop) (μ3:(Int×(List (Int))×(List (ByteArray×aH)))→Nat),(∃ x1:Int×(List (Int))×(List (ByteArray×aH)),(0=(List.length x1.2.1))∧SlS aD a (((a.length:Int)=(a.length:Int))∧((0:Int)=x1.1)∧SlS aD a (SlQ 0 (List.length x1.2.1) dA (gl aC x1.2.1) ((0=(List.length x1.2.2))∧(∀ i,i < (List.length x1.2.2)→(fun _=>.empty) i=(mks x1.2.2) i)∧(∀ i,i < (List.length x1.2.2)→DEqs (dA i) ((mvs aF x1.2.2) i))∧I2 x1))))∧∀ y4:Int×(List (Int))×(List (ByteArray×aH)),I2 y4→(Br (decide (y4.1 < (a.length:Int))) (Br (decide ((0:Int)≤y4.1)&&decide (y4.1 < (a.length:Int))) (Br (iN y4.2.2 (((at_ a y4.1).1).2.2.2.2.2.2.1)) (Let (IntKind.i64.wrap (((mat y4.2.2 (((at_ a y4.1).1).2.2.2.2.2.2.1)).1)+(1:Int))) (fun v10:Int=>((((at_ a y4.1).1).2.2.2.2.2.2.1)=(((at_ a y4.1).1).2.2.2.2.2.2.1)∧(((mat y4.2.2 (((at_ a y4.1).1).2.2.2.2.2.2.1)).2).length)=(((mat y4.2.2 (((at_ a y4.1).1).2.2.2.2.2.2.1)).2).length)∧True)∧(f33.ent (fun c11=>True∧Br (dS c11) (((List.length y4.2.1)=(List.length y4.2.1)∧kK (((List.length y4.2.1)+1) * 8))∧(Let (IntKind.i64.wrap (y4.1+(1:Int))) (fun v14:Int=>∃ x15:Int×(List (Int))×(List (ByteArray×aH)),(((List.length y4.2.1)+1)=(List.length x15.2.1))∧SlS aD a (((a.length:Int)=(a.length:Int))∧(v14=x15.1)∧SlS aD a (SlQ ((List.length y4.2.1)+1) (List.length x15.2.1) (eF (gl aC y4.2.1) (List.length y4.2.1) (fun _=>[.int .i64 y4.1])) (gl aC x15.2.1) (((mpN (mks y4.2.2) (((at_ a y4.1).1).2.2.2.2.2.2.1) (List.length y4.2.2))=(List.length x15.2.2))∧(∀ i,i < (List.length x15.2.2)→(hH (mks y4.2.2) (((at_ a y4.1).1).2.2.2.2.2.2.1) (List.length y4.2.2)) i=(mks x15.2.2) i)∧(∀ i,i < (List.length x15.2.2)→DEqs ((gU (mks y4.2.2) (mvs aF y4.2.2) (((at_ a y4.1).1).2.2.2.2.2.2.1) [.int .i64 v10,.slice .ro 1 (((mat y4.2.2 (((at_ a y4.1).1).2.2.2.2.2.2.1)).2).length) (gl aC ((mat y4.2.2 (((at_ a y4.1).1).2.2.2.2.2.2.1)).2))] (List.length y4.2.2)) i) ((mvs aF x15.2.2) i))∧I2 x15∧μ3 x15 < μ3 y4)))))) (Let (IntKind.i64.wrap (y4.1+(1:Int))) (fun v20:Int=>∃ x21:Int×(List (Int))×(List (ByteArray×aH)),((List.length y4.2.1)=(List.length x21.2.1))∧SlS aD a (((a.length:Int)=(a.length:Int))∧(v20=x21.1)∧SlS aD a (SlQ (List.length y4.2.1) (List.length x21.2.1) (gl aC y4.2.1) (gl aC x21.2.1) (((mpN (mks y4.2.2) (((at_ a y4.1).1).2.2.2.2.2.2.1) (List.length y4.2.2))=(List.length x21.2.2))∧(∀ i,i < (List.length x21.2.2)→(hH (mks y4.2.2) (((at_ a y4.1).1).2.2.2.2.2.2.1) (List.length y4.2.2)) i=(mks x21.2.2) i)∧(∀ i,i < (List.length x21.2.2)→DEqs ((gU (mks y4.2.2) (mvs aF y4.2.2) (((at_ a y4.1).1).2.2.2.2.2.2.1) [.int .i64 v10,.slice .ro 1 (((mat y4.2.2 (((at_ a y4.1).1).2.2.2.2.2.2.1)).2).length) (gl aC ((mat y4.2.2 (((at_ a y4.1).1).2.2.2.2.2.2.1)).2))] (List.length y4.2.2)) i) ((mvs aF x21.2.2) i))∧I2 x21∧μ3 x21 < μ3 y4)))))) (at_ a y4.1)))) (((((at_ a y4.1).1).2.2.2.2.2.2.1)=(((at_ a y4.1).1).2.2.2.2.2.2.1)∧True)∧(f33.ent (fun c32=>True∧Br (dS c32) (((List.length y4.2.1)=(List.length y4.2.1)∧kK (((List.length y4.2.1)+1) * 8))∧(Let (IntKind.i64.wrap (y4.1+(1:Int))) (fun v35:Int=>∃ x36:Int×(List (Int))×(List (ByteArray×aH)),(((List.length y4.2.1)+1)=(List.length x36.2.1))∧SlS aD a (((a.length:Int)=(a.length:Int))∧(v35=x36.1)∧SlS aD a (SlQ ((List.length y4.2.1)+1) (List.length x36.2.1) (eF (gl aC y4.2.1) (List.length y4.2.1) (fun _=>[.int .i64 y4.1])) (gl aC x36.2.1) (((mpN (mks y4.2.2) (((at_ a y4.1).1).2.2.2.2.2.2.1) (List.length y4.2.2))=(List.length x36.2.2))∧(∀ i,i < (List.length x36.2.2)→(hH (mks y4.2.2) (((at_ a y4.1).1).2.2.2.2.2.2.1) (List.length y4.2.2)) i=(mks x36.2.2) i)∧(∀ i,i < (List.length x36.2.2)→DEqs ((gU (mks y4.2.2) (mvs aF y4.2.2) (((at_ a y4.1).1).2.2.2.2.2.2.1) [.int .i64 (1:Int),.slice .ro 1 0 dA] (List.length y4.2.2)) i) ((mvs aF x36.2.2) i))∧I2 x36∧μ3 x36 < μ3 y4)))))) (Let (IntKind.i64.wrap (y4.1+(1:Int))) (fun v41:Int=>∃ x42:Int×(List (Int))×(List (ByteArray×aH)),((List.length y4.2.1)=(List.length x42.2.1))∧SlS aD a (((a.length:Int)=(a.length:Int))∧(v41=x42.1)∧SlS aD a (SlQ (List.length y4.2.1) (List.length x42.2.1) (gl aC y4.2.1) (gl aC x42.2.1) (((mpN (mks y4.2.2) (((at_ a y4.1).1).2.2.2.2.2.2.1) (List.length y4.2.2))=(List.length x42.2.2))∧(∀ i,i < (List.length x42.2.2)→(hH (mks y4.2.2) (((at_ a y4.1).1).2.2.2.2.2.2.1) (List.length y4.2.2)) i=(mks x42.2.2) i)∧(∀ i,i < (List.length x42.2.2)→DEqs ((gU (mks y4.2.2) (mvs aF y4.2.2) (((at_ a y4.1).1).2.2.2.2.2.2.1) [.int .i64 (1:Int),.slice .ro 1 0 dA] (List.length y4.2.2)) i) ((mvs aF x42.2.2) i))∧I2 x42∧μ3 x42 < μ3 y4)))))) (at_ a y4.1)))) False) (((List.length y4.2.1)=(List.length y4.2.1))∧∃ c53:(List (Int))×(List (aB)),((List.length y4.2.1)=List.length c53.1)∧(DEqs [.eptr [.slice .ro 13 a.length (gl aD a)]] [.eptr [.slice .ro 13 c53.2.length (gl aD c53.2)]])∧SlQ (List.length y4.2.1) (List.length c53.1) (gl aC y4.2.1) (gl aC c53.1) ((mY c53)∧((List.length (eY c53))=(List.length y4.2.1))∧(∃ (I56:((List (Int))×(List (Int))×Int×Int×(List (ByteArray×aH)))→Prop) (μ57:((List (Int))×(List (Int))×Int×Int×(List (ByteArray×aH)))→Nat),(∃ x55:(List (Int))×(List (Int))×Int×Int×(List (ByteArray×aH)),SlQ (List.length (eY c53)) x55.1.length (gl aC (eY c53)) (gl aC x55.1) (SlQ (List.length (eY c53)) x55.2.1.length (gl aC (eY c53)) (gl aC x55.2.1) (((List.length (eY c53):Int)=x55.2.2.1)∧((0:Int)=x55.2.2.2.1)∧SlS aD a (((List.length y4.2.2)=(List.length x55.2.2.2.2))∧(∀ i,i < (List.length x55.2.2.2.2)→(mks y4.2.2) i=(mks x55.2.2.2.2) i)∧(∀ i,i < (List.length x55.2.2.2.2)→DEqs ((mvs aF y4.2.2) i) ((mvs aF x55.2.2.2.2) i))∧I56 x55))))∧∀ y58:(List (Int))×(List (Int))×Int×Int×(List (ByteArray×aH)),I56 y58→(Br (decide (y58.2.2.2.1 < y58.2.2.1)) (Br (decide ((0:Int)≤y58.2.2.2.1)&&decide (y58.2.2.2.1 < (y58.2.1.length:Int))) (Br (decide ((0:Int)≤(at_ y58.2.1 y58.2.2.2.1))&&decide ((at_ y58.2.1 y58.2.2.2.1) < (a.length:Int))) (Br (iN y58.2.2.2.2 (((at_ a (at_ y58.2.1 y58.2.2.2.1)).1).2.2.2.2.2.2.1)) (((((mat y58.2.2.2.2 (((at_ a (at_ y58.2.1 y58.2.2.2.1)).1).2.2.2.2.2.2.1)).2).length)=(((mat y58.2.2.2.2 (((at_ a (at_ y58.2.1 y58.2.2.2.1)).1).2.2.2.2.2.2.1)).2).length)∧kK (((((mat y58.2.2.2.2 (((at_ a (at_ y58.2.1 y58.2.2.2.1)).1).2.2.2.2.2.2.1)).2).length)+1) * 8))∧(Br (decide ((0:Int)≤(at_ y58.2.1 y58.2.2.2.1))&&decide ((at_ y58.2.1 y58.2.2.2.1) < (a.length:Int))) (((((at_ a (at_ y58.2.1 y58.2.2.2.1)).1).2.2.2.2.2.2.1)=(((at_ a (at_ y58.2.1 y58.2.2.2.1)).1).2.2.2.2.2.2.1)∧((((mat y58.2.2.2.2 (((at_ a (at_ y58.2.1 y58.2.2.2.1)).1).2.2.2.2.2.2.1)).2).length)+1)=((((mat y58.2.2.2.2 (((at_ a (at_ y58.2.1 y58.2.2.2.1)).1).2.2.2.2.2.2.1)).2).length)+1)∧True)∧(Let (IntKind.i64.wrap (y58.2.2.2.1+(1:Int))) (fun v66:Int=>∃ x67:(List (Int))×(List (Int))×Int×Int×(List (ByteArray×aH)),SlQ y58.1.length x67.1.length (gl aC y58.1) (gl aC x67.1) (SlQ y58.2.1.length x67.2.1.length (gl aC y58.2.1) (gl aC x67.2.1) ((y58.2.2.1=x67.2.2.1)∧(v66=x67.2.2.2.1)∧SlS aD a (((mpN (mks y58.2.2.2.2) (((at_ a (at_ y58.2.1 y58.2.2.2.1)).1).2.2.2.2.2.2.1) (List.length y58.2.2.2.2))=(List.length x67.2.2.2.2))∧(∀ i,i < (List.length x67.2.2.2.2)→(hH (mks y58.2.2.2.2) (((at_ a (at_ y58.2.1 y58.2.2.2.1)).1).2.2.2.2.2.2.1) (List.length y58.2.2.2.2)) i=(mks x67.2.2.2.2) i)∧(∀ i,i < (List.length x67.2.2.2.2)→DEqs ((gU (mks y58.2.2.2.2) (mvs aF y58.2.2.2.2) (((at_ a (at_ y58.2.1 y58.2.2.2.1)).1).2.2.2.2.2.2.1) [.int .i64 ((mat y58.2.2.2.2 (((at_ a (at_ y58.2.1 y58.2.2.2.1)).1).2.2.2.2.2.2.1)).1),.slice .ro 1 ((((mat y58.2.2.2.2 (((at_ a (at_ y58.2.1 y58.2.2.2.1)).1).2.2.2.2.2.2.1)).2).length)+1) (eF (gl aC ((mat y58.2.2.2.2 (((at_ a (at_ y58.2.1 y58.2.2.2.1)).1).2.2.2.2.2.2.1)).2)) (((mat y58.2.2.2.2 (((at_ a (at_ y58.2.1 y58.2.2.2.1)).1).2.2.2.2.2.2.1)).2).length) (fun _=>[.int .i64 (at_ y58.2.1 y58.2.2.2.1)]))] (List.length y58.2.2.2.2)) i) ((mvs aF x67.2.2.2.2) i))∧I56 x67∧μ57 x67 < μ57 y58)))))) False)) ((kK ((0+1) * 8))∧(Br (decide ((0:Int)≤(at_ y58.2.1 y58.2.2.2.1))&&decide ((at_ y58.2.1 y58.2.2.2.1) < (a.length:Int))) (((((at_ a (at_ y58.2.1 y58.2.2.2.1)).1).2.2.2.2.2.2.1)=(((at_ a (at_ y58.2.1 y58.2.2.2.1)).1).2.2.2.2.2.2.1)∧1=1∧True)∧(Let (IntKind.i64.wrap (y58.2.2.2.1+(1:Int))) (fun v74:Int=>∃ x75:(List (Int))×(List (Int))×Int×Int×(List (ByteArray×aH)),SlQ y58.1.length x75.1.length (gl aC y58.1) (gl aC x75.1) (SlQ y58.2.1.length x75.2.1.length (gl aC y58.2.1) (gl aC x75.2.1) ((y58.2.2.1=x75.2.2.1)∧(v74=x75.2.2.2.1)∧SlS aD a (((mpN (mks y58.2.2.2.2) (((at_ a (at_ y58.2.1 y58.2.2.2.1)).1).2.2.2.2.2.2.1) (List.length y58.2.2.2.2))=(List.length x75.2.2.2.2))∧(∀ i,i < (List.length x75.2.2.2.2)→(hH (mks y58.2.2.2.2) (((at_ a (at_ y58.2.1 y58.2.2.2.1)).1).2.2.2.2.2.2.1) (List.length y58.2.2.2.2)) i=(mks x75.2.2.2.2) i)∧(∀ i,i < (List.length x75.2.2.2.2)→DEqs ((gU (mks y58.2.2.2.2) (mvs aF y58.2.2.2.2) (((at_ a (at_ y58.2.1 y58.2.2.2.1)).1).2.2.2.2.2.2.1) [.int .i64 (0:Int),.slice .ro 1 1 (eF dA 0 (fun _=>[.int .i64 (at_ y58.2.1 y58.2.2.2.1)]))] (List.length y58.2.2.2.2)) i) ((mvs aF x75.2.2.2.2) i))∧I56 x75∧μ57 x75 < μ57 y58)))))) False))) False) False) (∃ (I86:((List (List (Int)))×(List (Int))×Int×Int×(List (ByteArray×aH)))→Prop) (μ87:((List (List (Int)))×(List (Int))×Int×Int×(List (ByteArray×aH)))→Nat),(∃ x85:(List (List (Int)))×(List (Int))×Int×Int×(List (ByteArray×aH)),SlQ 0 x85.1.length dA (gl aI x85.1) (SlQ y58.1.length x85.2.1.length (gl aC y58.1) (gl aC x85.2.1) (((y58.1.length:Int)=x85.2.2.1)∧((0:Int)=x85.2.2.2.1)∧SlS aD a (((List.length y58.2.2.2.2)=(List.length x85.2.2.2.2))∧(∀ i,i < (List.length x85.2.2.2.2)→(mks y58.2.2.2.2) i=(mks x85.2.2.2.2) i)∧(∀ i,i < (List.length x85.2.2.2.2)→DEqs ((mvs aF y58.2.2.2.2) i) ((mvs aF x85.2.2.2.2) i))∧(0=x85.1.length)∧I86 x85))))∧∀ y88:(List (List (Int)))×(List (Int))×Int×Int×(List (ByteArray×aH)),I86 y88→(Br (decide (y88.2.2.2.1 < y88.2.2.1)) (Br (decide ((0:Int)≤y88.2.2.2.1)&&decide (y88.2.2.2.1 < (y88.2.1.length:Int))) (Br (decide ((0:Int)≤(at_ y88.2.1 y88.2.2.2.1))&&decide ((at_ y88.2.1 y88.2.2.2.1) < (a.length:Int))) (Br (iN y88.2.2.2.2 (((at_ a (at_ y88.2.1 y88.2.2.2.1)).1).2.2.2.2.2.2.1)) (Br ((((at_ a (at_ y88.2.1 y88.2.2.2.1)).1).2.2.2.2.2.2.1).toList==ByteArray.empty.toList) ((y88.1.length=y88.1.length∧kK ((y88.1.length+1) * 24))∧(Let (IntKind.i64.wrap (y88.2.2.2.1+(1:Int))) (fun v97:Int=>∃ x98:(List (List (Int)))×(List (Int))×Int×Int×(List (ByteArray×aH)),SlQ (y88.1.length+1) x98.1.length (eF (gl aI y88.1) y88.1.length (fun _=>[.slice .ro 1 1 (fun _=>[.int .i64 (at_ y88.2.1 y88.2.2.2.1)])])) (gl aI x98.1) (SlQ y88.2.1.length x98.2.1.length (gl aC y88.2.1) (gl aC x98.2.1) ((y88.2.2.1=x98.2.2.1)∧(v97=x98.2.2.2.1)∧SlS aD a (((List.length y88.2.2.2.2)=(List.length x98.2.2.2.2))∧(∀ i,i < (List.length x98.2.2.2.2)→(mks y88.2.2.2.2) i=(mks x98.2.2.2.2) i)∧(∀ i,i < (List.length x98.2.2.2.2)→DEqs ((mvs aF y88.2.2.2.2) i) ((mvs aF x98.2.2.2.2) i))∧((y88.1.length+1)=x98.1.length)∧I86 x98∧μ87 x98 < μ87 y88)))))) (Br (decide ((0:Int)≤(0:Int))&&decide ((0:Int) < (((mat y88.2.2.2.2 (((at_ a (at_ y88.2.1 y88.2.2.2.1)).1).2.2.2.2.2.2.1)).2).length:Int))) (Br ((at_ y88.2.1 y88.2.2.2.1)==(at_ ((mat y88.2.2.2.2 (((at_ a (at_ y88.2.1 y88.2.2.2.1)).1).2.2.2.2.2.2.1)).2) (0:Int))) (Br (decide ((((at_ a (at_ y88.2.1 y88.2.2.2.1)).1).2.2.2.2.2.2.2)≤((mat y88.2.2.2.2 (((at_ a (at_ y88.2.1 y88.2.2.2.1)).1).2.2.2.2.2.2.1)).1))) (f117.ent (fun c108=>(L20 c108)∧(y88.1.length=y88.1.length∧kK ((y88.1.length+1) * 24))∧(Let (IntKind.i64.wrap (y88.2.2.2.1+(1:Int))) (fun v109:Int=>∃ x110:(List (List (Int)))×(List (Int))×Int×Int×(List (ByteArray×aH)),SlQ (y88.1.length+1) x110.1.length (eF (gl aI y88.1) y88.1.length (fun _=>[.slice .ro 1 ((dW c108).length) (gl aC (dW c108))])) (gl aI x110.1) (SlQ y88.2.1.length x110.2.1.length (gl aC y88.2.1) (gl aC x110.2.1) ((y88.2.2.1=x110.2.2.1)∧(v109=x110.2.2.2.1)∧SlS aD a (((List.length y88.2.2.2.2)=(List.length x110.2.2.2.2))∧(∀ i,i < (List.length x110.2.2.2.2)→(mks y88.2.2.2.2) i=(mks x110.2.2.2.2) i)∧(∀ i,i < (List.length x110.2.2.2.2)→DEqs ((mvs aF y88.2.2.2.2) i) ((mvs aF x110.2.2.2.2) i))∧((y88.1.length+1)=x110.1.length)∧I86 x110∧μ87 x110 < μ87 y88)))))) ((mat y88.2.2.2.2 (((at_ a (at_ y88.2.1 y88.2.2.2.1)).1).2.2.2.2.2.2.1)).2)) (Let (IntKind.i64.wrap (y88.2.2.2.1+(1:Int))) (fun v116:Int=>∃ x117:(List (List (Int)))×(List (Int))×Int×Int×(List (ByteArray×aH)),SlQ y88.1.length x117.1.length (gl aI y88.1) (gl aI x117.1) (SlQ y88.2.1.length x117.2.1.length (gl aC y88.2.1) (gl aC x117.2.1) ((y88.2.2.1=x117.2.2.1)∧(v116=x117.2.2.2.1)∧SlS aD a (((List.length y88.2.2.2.2)=(List.length x117.2.2.2.2))∧(∀ i,i < (List.length x117.2.2.2.2)→(mks y88.2.2.2.2) i=(mks x117.2.2.2.2) i)∧(∀ i,i < (List.length x117.2.2.2.2)→DEqs ((mvs aF y88.2.2.2.2) i) ((mvs aF x117.2.2.2.2) i))∧(y88.1.length=x117.1.length)∧I86 x117∧μ87 x117 < μ87 y88)))))) (Let (IntKind.i64.wrap (y88.2.2.2.1+(1:Int))) (fun v124:Int=>∃ x125:(List (List (Int)))×(List (Int))×Int×Int×(List (ByteArray×aH)),SlQ y88.1.length x125.1.length (gl aI y88.1) (gl aI x125.1) (SlQ y88.2.1.length x125.2.1.length (gl aC y88.2.1) (gl aC x125.2.1) ((y88.2.2.1=x125.2.2.1)∧(v124=x125.2.2.2.1)∧SlS aD a (((List.length y88.2.2.2.2)=(List.length x125.2.2.2.2))∧(∀ i,i < (List.length x125.2.2.2.2)→(mks y88.2.2.2.2) i=(mks x125.2.2.2.2) i)∧(∀ i,i < (List.length x125.2.2.2.2)→DEqs ((mvs aF y88.2.2.2.2) i) ((mvs aF x125.2.2.2.2) i))∧(y88.1.length=x125.1.length)∧I86 x125∧μ87 x125 < μ87 y88)))))) False)) (Br ((((at_ a (at_ y88.2.1 y88.2.2.2.1)).1).2.2.2.2.2.2.1).toList==ByteArray.empty.toList) ((y88.1.length=y88.1.length∧kK ((y88.1.length+1) * 24))∧(Let (IntKind.i64.wrap (y88.2.2.2.1+(1:Int))) (fun v137:Int=>∃ x138:(List (List (Int)))×(List (Int))×Int×Int×(List (ByteArray×aH)),SlQ (y88.1.length+1) x138.1.length (eF (gl aI y88.1) y88.1.length (fun _=>[.slice .ro 1 1 (fun _=>[.int .i64 (at_ y88.2.1 y88.2.2.2.1)])])) (gl aI x138.1) (SlQ y88.2.1.length x138.2.1.length (gl aC y88.2.1) (gl aC x138.2.1) ((y88.2.2.1=x138.2.2.1)∧(v137=x138.2.2.2.1)∧SlS aD a (((List.length y88.2.2.2.2)=(List.length x138.2.2.2.2))∧(∀ i,i < (List.length x138.2.2.2.2)→(mks y88.2.2.2.2) i=(mks x138.2.2.2.2) i)∧(∀ i,i < (List.length x138.2.2.2.2)→DEqs ((mvs aF y88.2.2.2.2) i) ((mvs aF x138.2.2.2.2) i))∧((y88.1.length+1)=x138.1.length)∧I86 x138∧μ87 x138 < μ87 y88)))))) (False))) False) False) ((y88.1.length=y88.1.length)∧SlQ y88.1.length ((bO a).length) (gl aI y88.1) (gl aI (bO a)) (True)))))))))
def f93.vc (a:List (aB)):Prop:=(∃ (I2:(Int×(List (Int))×(List (ByteArray×aH)))→Prop) (μ3:(Int×(List (Int))×(List (ByteArray×aH)))→Nat),I2 ((0:Int),[],[])∧∀ y4:Int×(List (Int))×(List (ByteArray×aH)),I2 y4→((y4.1 < (a.length:Int)→((0:Int)≤y4.1∧y4.1 < (a.length:Int)∧((iN y4.2.2 (((at_ a y4.1).1).2.2.2.2.2.2.1)=true→(-9223372036854775808≤(((mat y4.2.2 (((at_ a y4.1).1).2.2.2.2.2.2.1)).1)+(1:Int))∧(((mat y4.2.2 (((at_ a y4.1).1).2.2.2.2.2.2.1)).1)+(1:Int))≤9223372036854775807∧(((dS (at_ a y4.1))=true→((List.length y4.2.1)+1≤1073741824∧(-9223372036854775808≤(y4.1+(1:Int))∧(y4.1+(1:Int))≤9223372036854775807∧(I2 ((y4.1+(1:Int)),y4.2.1++([y4.1]),dL y4.2.2 (((at_ a y4.1).1).2.2.2.2.2.2.1) ((((mat y4.2.2 (((at_ a y4.1).1).2.2.2.2.2.2.1)).1)+(1:Int)),(mat y4.2.2 (((at_ a y4.1).1).2.2.2.2.2.2.1)).2))∧μ3 ((y4.1+(1:Int)),y4.2.1++([y4.1]),dL y4.2.2 (((at_ a y4.1).1).2.2.2.2.2.2.1) ((((mat y4.2.2 (((at_ a y4.1).1).2.2.2.2.2.2.1)).1)+(1:Int)),(mat y4.2.2 (((at_ a y4.1).1).2.2.2.2.2.2.1)).2)) < μ3 y4))))∧(¬((dS (at_ a y4.1))=true)→(-9223372036854775808≤(y4.1+(1:Int))∧(y4.1+(1:Int))≤9223372036854775807∧(I2 ((y4.1+(1:Int)),y4.2.1,dL y4.2.2 (((at_ a y4.1).1).2.2.2.2.2.2.1) ((((mat y4.2.2 (((at_ a y4.1).1).2.2.2.2.2.2.1)).1)+(1:Int)),(mat y4.2.2 (((at_ a y4.1).1).2.2.2.2.2.2.1)).2))∧μ3 ((y4.1+(1:Int)),y4.2.1,dL y4.2.2 (((at_ a y4.1).1).2.2.2.2.2.2.1) ((((mat y4.2.2 (((at_ a y4.1).1).2.2.2.2.2.2.1)).1)+(1:Int)),(mat y4.2.2 (((at_ a y4.1).1).2.2.2.2.2.2.1)).2)) < μ3 y4))))))∧(¬(iN y4.2.2 (((at_ a y4.1).1).2.2.2.2.2.2.1)=true)→(((dS (at_ a y4.1))=true→((List.length y4.2.1)+1≤1073741824∧(-9223372036854775808≤(y4.1+(1:Int))∧(y4.1+(1:Int))≤9223372036854775807∧(I2 ((y4.1+(1:Int)),y4.2.1++([y4.1]),dL y4.2.2 (((at_ a y4.1).1).2.2.2.2.2.2.1) ((1:Int),[]))∧μ3 ((y4.1+(1:Int)),y4.2.1++([y4.1]),dL y4.2.2 (((at_ a y4.1).1).2.2.2.2.2.2.1) ((1:Int),[])) < μ3 y4))))∧(¬((dS (at_ a y4.1))=true)→(-9223372036854775808≤(y4.1+(1:Int))∧(y4.1+(1:Int))≤9223372036854775807∧(I2 ((y4.1+(1:Int)),y4.2.1,dL y4.2.2 (((at_ a y4.1).1).2.2.2.2.2.2.1) ((1:Int),[]))∧μ3 ((y4.1+(1:Int)),y4.2.1,dL y4.2.2 (((at_ a y4.1).1).2.2.2.2.2.2.1) ((1:Int),[])) < μ3 y4))))))))∧(¬(y4.1 < (a.length:Int))→(mY (y4.2.1,a)∧((List.length (eY (y4.2.1,a)))=(List.length y4.2.1)∧(∃ (I56:((List (Int))×(List (Int))×Int×Int×(List (ByteArray×aH)))→Prop) (μ57:((List (Int))×(List (Int))×Int×Int×(List (ByteArray×aH)))→Nat),I56 ((eY (y4.2.1,a)),(eY (y4.2.1,a)),(List.length (eY (y4.2.1,a)):Int),(0:Int),y4.2.2)∧∀ y58:(List (Int))×(List (Int))×Int×Int×(List (ByteArray×aH)),I56 y58→((y58.2.2.2.1 < y58.2.2.1→((0:Int)≤y58.2.2.2.1∧y58.2.2.2.1 < (y58.2.1.length:Int)∧((0:Int)≤(at_ y58.2.1 y58.2.2.2.1)∧(at_ y58.2.1 y58.2.2.2.1) < (a.length:Int)∧((iN y58.2.2.2.2 (((at_ a (at_ y58.2.1 y58.2.2.2.1)).1).2.2.2.2.2.2.1)=true→((((mat y58.2.2.2.2 (((at_ a (at_ y58.2.1 y58.2.2.2.1)).1).2.2.2.2.2.2.1)).2).length)+1≤1073741824∧((0:Int)≤(at_ y58.2.1 y58.2.2.2.1)∧(at_ y58.2.1 y58.2.2.2.1) < (a.length:Int)∧(-9223372036854775808≤(y58.2.2.2.1+(1:Int))∧(y58.2.2.2.1+(1:Int))≤9223372036854775807∧(I56 (y58.1,y58.2.1,y58.2.2.1,(y58.2.2.2.1+(1:Int)),dL y58.2.2.2.2 (((at_ a (at_ y58.2.1 y58.2.2.2.1)).1).2.2.2.2.2.2.1) ((mat y58.2.2.2.2 (((at_ a (at_ y58.2.1 y58.2.2.2.1)).1).2.2.2.2.2.2.1)).1,((mat y58.2.2.2.2 (((at_ a (at_ y58.2.1 y58.2.2.2.1)).1).2.2.2.2.2.2.1)).2)++([at_ y58.2.1 y58.2.2.2.1])))∧μ57 (y58.1,y58.2.1,y58.2.2.1,(y58.2.2.2.1+(1:Int)),dL y58.2.2.2.2 (((at_ a (at_ y58.2.1 y58.2.2.2.1)).1).2.2.2.2.2.2.1) ((mat y58.2.2.2.2 (((at_ a (at_ y58.2.1 y58.2.2.2.1)).1).2.2.2.2.2.2.1)).1,((mat y58.2.2.2.2 (((at_ a (at_ y58.2.1 y58.2.2.2.1)).1).2.2.2.2.2.2.1)).2)++([at_ y58.2.1 y58.2.2.2.1]))) < μ57 y58)))))∧(¬(iN y58.2.2.2.2 (((at_ a (at_ y58.2.1 y58.2.2.2.1)).1).2.2.2.2.2.2.1)=true)→(0+1≤1073741824∧((0:Int)≤(at_ y58.2.1 y58.2.2.2.1)∧(at_ y58.2.1 y58.2.2.2.1) < (a.length:Int)∧(-9223372036854775808≤(y58.2.2.2.1+(1:Int))∧(y58.2.2.2.1+(1:Int))≤9223372036854775807∧(I56 (y58.1,y58.2.1,y58.2.2.1,(y58.2.2.2.1+(1:Int)),dL y58.2.2.2.2 (((at_ a (at_ y58.2.1 y58.2.2.2.1)).1).2.2.2.2.2.2.1) ((0:Int),([])++([at_ y58.2.1 y58.2.2.2.1])))∧μ57 (y58.1,y58.2.1,y58.2.2.1,(y58.2.2.2.1+(1:Int)),dL y58.2.2.2.2 (((at_ a (at_ y58.2.1 y58.2.2.2.1)).1).2.2.2.2.2.2.1) ((0:Int),([])++([at_ y58.2.1 y58.2.2.2.1]))) < μ57 y58)))))))))∧(¬(y58.2.2.2.1 < y58.2.2.1)→(∃ (I86:((List (List (Int)))×(List (Int))×Int×Int×(List (ByteArray×aH)))→Prop) (μ87:((List (List (Int)))×(List (Int))×Int×Int×(List (ByteArray×aH)))→Nat),I86 ([],y58.1,(y58.1.length:Int),(0:Int),y58.2.2.2.2)∧∀ y88:(List (List (Int)))×(List (Int))×Int×Int×(List (ByteArray×aH)),I86 y88→((y88.2.2.2.1 < y88.2.2.1→((0:Int)≤y88.2.2.2.1∧y88.2.2.2.1 < (y88.2.1.length:Int)∧((0:Int)≤(at_ y88.2.1 y88.2.2.2.1)∧(at_ y88.2.1 y88.2.2.2.1) < (a.length:Int)∧((iN y88.2.2.2.2 (((at_ a (at_ y88.2.1 y88.2.2.2.1)).1).2.2.2.2.2.2.1)=true→(((((at_ a (at_ y88.2.1 y88.2.2.2.1)).1).2.2.2.2.2.2.1)=ByteArray.empty→(y88.1.length+1≤1073741824∧(-9223372036854775808≤(y88.2.2.2.1+(1:Int))∧(y88.2.2.2.1+(1:Int))≤9223372036854775807∧(I86 (y88.1++([[at_ y88.2.1 y88.2.2.2.1]]),y88.2.1,y88.2.2.1,(y88.2.2.2.1+(1:Int)),y88.2.2.2.2)∧μ87 (y88.1++([[at_ y88.2.1 y88.2.2.2.1]]),y88.2.1,y88.2.2.1,(y88.2.2.2.1+(1:Int)),y88.2.2.2.2) < μ87 y88))))∧(¬((((at_ a (at_ y88.2.1 y88.2.2.2.1)).1).2.2.2.2.2.2.1)=ByteArray.empty)→((0:Int) < (((mat y88.2.2.2.2 (((at_ a (at_ y88.2.1 y88.2.2.2.1)).1).2.2.2.2.2.2.1)).2).length:Int)∧(((at_ y88.2.1 y88.2.2.2.1)=(at_ ((mat y88.2.2.2.2 (((at_ a (at_ y88.2.1 y88.2.2.2.1)).1).2.2.2.2.2.2.1)).2) (0:Int))→(((((at_ a (at_ y88.2.1 y88.2.2.2.1)).1).2.2.2.2.2.2.2)≤((mat y88.2.2.2.2 (((at_ a (at_ y88.2.1 y88.2.2.2.1)).1).2.2.2.2.2.2.1)).1)→(L20 ((mat y88.2.2.2.2 (((at_ a (at_ y88.2.1 y88.2.2.2.1)).1).2.2.2.2.2.2.1)).2)∧(y88.1.length+1≤1073741824∧(-9223372036854775808≤(y88.2.2.2.1+(1:Int))∧(y88.2.2.2.1+(1:Int))≤9223372036854775807∧(I86 (y88.1++([(dW ((mat y88.2.2.2.2 (((at_ a (at_ y88.2.1 y88.2.2.2.1)).1).2.2.2.2.2.2.1)).2))]),y88.2.1,y88.2.2.1,(y88.2.2.2.1+(1:Int)),y88.2.2.2.2)∧μ87 (y88.1++([(dW ((mat y88.2.2.2.2 (((at_ a (at_ y88.2.1 y88.2.2.2.1)).1).2.2.2.2.2.2.1)).2))]),y88.2.1,y88.2.2.1,(y88.2.2.2.1+(1:Int)),y88.2.2.2.2) < μ87 y88)))))∧(¬((((at_ a (at_ y88.2.1 y88.2.2.2.1)).1).2.2.2.2.2.2.2)≤((mat y88.2.2.2.2 (((at_ a (at_ y88.2.1 y88.2.2.2.1)).1).2.2.2.2.2.2.1)).1))→(-9223372036854775808≤(y88.2.2.2.1+(1:Int))∧(y88.2.2.2.1+(1:Int))≤9223372036854775807∧(I86 (y88.1,y88.2.1,y88.2.2.1,(y88.2.2.2.1+(1:Int)),y88.2.2.2.2)∧μ87 (y88.1,y88.2.1,y88.2.2.1,(y88.2.2.2.1+(1:Int)),y88.2.2.2.2) < μ87 y88)))))∧(¬((at_ y88.2.1 y88.2.2.2.1)=(at_ ((mat y88.2.2.2.2 (((at_ a (at_ y88.2.1 y88.2.2.2.1)).1).2.2.2.2.2.2.1)).2) (0:Int)))→(-9223372036854775808≤(y88.2.2.2.1+(1:Int))∧(y88.2.2.2.1+(1:Int))≤9223372036854775807∧(I86 (y88.1,y88.2.1,y88.2.2.1,(y88.2.2.2.1+(1:Int)),y88.2.2.2.2)∧μ87 (y88.1,y88.2.1,y88.2.2.1,(y88.2.2.2.1+(1:Int)),y88.2.2.2.2) < μ87 y88))))))))∧(¬(iN y88.2.2.2.2 (((at_ a (at_ y88.2.1 y88.2.2.2.1)).1).2.2.2.2.2.2.1)=true)→(((((at_ a (at_ y88.2.1 y88.2.2.2.1)).1).2.2.2.2.2.2.1)=ByteArray.empty→(y88.1.length+1≤1073741824∧(-9223372036854775808≤(y88.2.2.2.1+(1:Int))∧(y88.2.2.2.1+(1:Int))≤9223372036854775807∧(I86 (y88.1++([[at_ y88.2.1 y88.2.2.2.1]]),y88.2.1,y88.2.2.1,(y88.2.2.2.1+(1:Int)),y88.2.2.2.2)∧μ87 (y88.1++([[at_ y88.2.1 y88.2.2.2.1]]),y88.2.1,y88.2.2.1,(y88.2.2.2.1+(1:Int)),y88.2.2.2.2) < μ87 y88))))∧(¬((((at_ a (at_ y88.2.1 y88.2.2.2.1)).1).2.2.2.2.2.2.1)=ByteArray.empty)→False)))))))∧(¬(y88.2.2.2.1 < y88.2.2.1)→(y88.1=bO a))))))))))))
set_option maxRecDepth 100000 in
set_option maxHeartbeats 2000000 in
theorem f93.of (a:List (aB)) (h:f93.vc a):f93.tree a:=Exists.elim h (fun I2 h163_=>Exists.elim h163_ (fun μ3 h163=>⟨I2,μ3,⟨((0:Int),[],[]),⟨(b8 dA (Rds.nil (enc:=aC))),SlS.mk  (⟨rfl,⟨rfl,SlS.mk  (slQ (Rds.nil (enc:=aC)) (mpK Mds.nil (h163.1)))⟩⟩)⟩⟩,fun y4 h165=>br (h163.2 y4 h165) Cnd.dec (fun h5 k161=>chk k161.2.2 Cnd.ix ⟨k161.1,k161.2.1⟩ (fun h7 k52=>br k52 Cnd.b (fun h8 k50=>wrapK.i64 k50 (fun h29 h30 k31=>⟨⟨rfl,⟨rfl,trivial⟩⟩,(f33.ei ⟨trivial,br k31 Cnd.b (fun h12 k26=>⟨⟨rfl,gY k26.1 (by decide)⟩,wrapK.i64 k26.2 (fun h17 h18 k19=>⟨((y4.1+(1:Int)),y4.2.1++([y4.1]),dL y4.2.2 (((at_ a y4.1).1).2.2.2.2.2.2.1) ((((mat y4.2.2 (((at_ a y4.1).1).2.2.2.2.2.2.1)).1)+(1:Int)),(mat y4.2.2 (((at_ a y4.1).1).2.2.2.2.2.2.1)).2)),⟨(b8 (eF (gl aC y4.2.1) (List.length y4.2.1) (fun _=>[.int .i64 y4.1])) (Rds.app (enc:=aC) (Rds.self (enc:=aC)) (Rds.one (enc:=aC) (DEqs.refl _)))),SlS.mk  (⟨rfl,⟨rfl,SlS.mk  (slQ (Rds.app (enc:=aC) (Rds.self (enc:=aC)) (Rds.one (enc:=aC) (DEqs.refl _))) (mpK (Mds.set (enc:=aF) (Mds.self (enc:=aF)) (DEqs.refl _)) (k19)))⟩⟩)⟩⟩)⟩) (fun h13 k27=>wrapK.i64 k27 (fun h23 h24 k25=>⟨((y4.1+(1:Int)),y4.2.1,dL y4.2.2 (((at_ a y4.1).1).2.2.2.2.2.2.1) ((((mat y4.2.2 (((at_ a y4.1).1).2.2.2.2.2.2.1)).1)+(1:Int)),(mat y4.2.2 (((at_ a y4.1).1).2.2.2.2.2.2.1)).2)),⟨(b8 (gl aC y4.2.1) (Rds.self (enc:=aC))),SlS.mk  (⟨rfl,⟨rfl,SlS.mk  (slQ (Rds.self (enc:=aC)) (mpK (Mds.set (enc:=aF) (Mds.self (enc:=aF)) (DEqs.refl _)) (k25)))⟩⟩)⟩⟩))⟩)⟩)) (fun h9 k51=>⟨⟨rfl,trivial⟩,(f33.ei ⟨trivial,br k51 Cnd.b (fun h33 k47=>⟨⟨rfl,gY k47.1 (by decide)⟩,wrapK.i64 k47.2 (fun h38 h39 k40=>⟨((y4.1+(1:Int)),y4.2.1++([y4.1]),dL y4.2.2 (((at_ a y4.1).1).2.2.2.2.2.2.1) ((1:Int),[])),⟨(b8 (eF (gl aC y4.2.1) (List.length y4.2.1) (fun _=>[.int .i64 y4.1])) (Rds.app (enc:=aC) (Rds.self (enc:=aC)) (Rds.one (enc:=aC) (DEqs.refl _)))),SlS.mk  (⟨rfl,⟨rfl,SlS.mk  (slQ (Rds.app (enc:=aC) (Rds.self (enc:=aC)) (Rds.one (enc:=aC) (DEqs.refl _))) (mpK (Mds.set (enc:=aF) (Mds.self (enc:=aF)) (DEqs.cons (DEq.refl _) (DEqs.cons ((Rds.nil (enc:=aC))).deq DEqs.nil))) (k40)))⟩⟩)⟩⟩)⟩) (fun h34 k48=>wrapK.i64 k48 (fun h44 h45 k46=>⟨((y4.1+(1:Int)),y4.2.1,dL y4.2.2 (((at_ a y4.1).1).2.2.2.2.2.2.1) ((1:Int),[])),⟨(b8 (gl aC y4.2.1) (Rds.self (enc:=aC))),SlS.mk  (⟨rfl,⟨rfl,SlS.mk  (slQ (Rds.self (enc:=aC)) (mpK (Mds.set (enc:=aF) (Mds.self (enc:=aF)) (DEqs.cons (DEq.refl _) (DEqs.cons ((Rds.nil (enc:=aC))).deq DEqs.nil))) (k46)))⟩⟩)⟩⟩))⟩)⟩))) (fun h6 k162=>⟨rfl,⟨(y4.2.1,a),⟨(b8 (gl aC y4.2.1) (Rds.self (enc:=aC))),⟨(DEqs.refl _),slQ (Rds.self (enc:=aC)) (⟨k162.1,q9 k162.2 (fun (h54:(List.length (eY (y4.2.1,a)))=(List.length y4.2.1)) hk=>⟨h54,Exists.elim hk (fun I56 h157_=>Exists.elim h157_ (fun μ57 h157=>⟨I56,μ57,⟨((eY (y4.2.1,a)),(eY (y4.2.1,a)),(List.length (eY (y4.2.1,a)):Int),(0:Int),y4.2.2),slQ (Rds.self (enc:=aC)) (slQ (Rds.self (enc:=aC)) (⟨rfl,⟨rfl,SlS.mk  (mpK (Mds.self (enc:=aF)) (h157.1))⟩⟩))⟩,fun y58 h159=>br (h157.2 y58 h159) Cnd.dec (fun h59 k155=>chk k155.2.2 Cnd.ix ⟨k155.1,k155.2.1⟩ (fun h61 k84=>chk k84.2.2 Cnd.ix ⟨k84.1,k84.2.1⟩ (fun h62 k83=>br k83 Cnd.b (fun h63 k81=>⟨⟨rfl,(gY k81.1 (by decide))⟩,chk k81.2.2.2 Cnd.ix ⟨k81.2.1,k81.2.2.1⟩ (fun h65 k72=>⟨⟨rfl,⟨rfl,trivial⟩⟩,wrapK.i64 k72 (fun h69 h70 k71=>⟨(y58.1,y58.2.1,y58.2.2.1,(y58.2.2.2.1+(1:Int)),dL y58.2.2.2.2 (((at_ a (at_ y58.2.1 y58.2.2.2.1)).1).2.2.2.2.2.2.1) ((mat y58.2.2.2.2 (((at_ a (at_ y58.2.1 y58.2.2.2.1)).1).2.2.2.2.2.2.1)).1,((mat y58.2.2.2.2 (((at_ a (at_ y58.2.1 y58.2.2.2.1)).1).2.2.2.2.2.2.1)).2)++([at_ y58.2.1 y58.2.2.2.1]))),slQ (Rds.self (enc:=aC)) (slQ (Rds.self (enc:=aC)) (⟨rfl,⟨rfl,SlS.mk  (mpK (Mds.set (enc:=aF) (Mds.self (enc:=aF)) (DEqs.cons (DEq.refl _) (DEqs.cons ((Rds.app (enc:=aC) (Rds.self (enc:=aC)) (Rds.one (enc:=aC) (DEqs.refl _)))).deq DEqs.nil))) (k71))⟩⟩))⟩)⟩)⟩) (fun h64 k82=>⟨(gY k82.1 (by decide)),chk k82.2.2.2 Cnd.ix ⟨k82.2.1,k82.2.2.1⟩ (fun h73 k80=>⟨⟨rfl,⟨rfl,trivial⟩⟩,wrapK.i64 k80 (fun h77 h78 k79=>⟨(y58.1,y58.2.1,y58.2.2.1,(y58.2.2.2.1+(1:Int)),dL y58.2.2.2.2 (((at_ a (at_ y58.2.1 y58.2.2.2.1)).1).2.2.2.2.2.2.1) ((0:Int),([])++([at_ y58.2.1 y58.2.2.2.1]))),slQ (Rds.self (enc:=aC)) (slQ (Rds.self (enc:=aC)) (⟨rfl,⟨rfl,SlS.mk  (mpK (Mds.set (enc:=aF) (Mds.self (enc:=aF)) (DEqs.cons (DEq.refl _) (DEqs.cons ((Rds.app (enc:=aC) (Rds.nil (enc:=aC)) (Rds.one (enc:=aC) (DEqs.refl _)))).deq DEqs.nil))) (k79))⟩⟩))⟩)⟩)⟩)))) (fun h60 k156=>Exists.elim k156 (fun I86 h152_=>Exists.elim h152_ (fun μ87 h152=>⟨I86,μ87,⟨([],y58.1,(y58.1.length:Int),(0:Int),y58.2.2.2.2),slQ (Rds.nil (enc:=aI)) (slQ (Rds.self (enc:=aC)) (⟨rfl,⟨rfl,SlS.mk  (mpK (Mds.self (enc:=aF)) (⟨(b8 dA (Rds.nil (enc:=aI))),h152.1⟩))⟩⟩))⟩,fun y88 h154=>br (h152.2 y88 h154) Cnd.dec (fun h89 k150=>chk k150.2.2 Cnd.ix ⟨k150.1,k150.2.1⟩ (fun h91 k148=>chk k148.2.2 Cnd.ix ⟨k148.1,k148.2.1⟩ (fun h92 k147=>br k147 Cnd.b (fun h93 k145=>br k145 Cnd.seq (fun h95 k133=>⟨⟨rfl,(gY k133.1 (by decide))⟩,wrapK.i64 k133.2 (fun h100 h101 k102=>⟨(y88.1++([[at_ y88.2.1 y88.2.2.2.1]]),y88.2.1,y88.2.2.1,(y88.2.2.2.1+(1:Int)),y88.2.2.2.2),slQ (Rds.app (enc:=aI) (Rds.self (enc:=aI)) (Rds.one (enc:=aI) (DEqs.cons ((Rds.one (enc:=aC) (DEqs.refl _))).deq DEqs.nil))) (slQ (Rds.self (enc:=aC)) (⟨rfl,⟨rfl,SlS.mk  (mpK (Mds.self (enc:=aF)) (⟨(b8 (eF (gl aI y88.1) y88.1.length (fun _=>[.slice .ro 1 1 (fun _=>[.int .i64 (at_ y88.2.1 y88.2.2.2.1)])])) (Rds.app (enc:=aI) (Rds.self (enc:=aI)) (Rds.one (enc:=aI) (DEqs.cons ((Rds.one (enc:=aC) (DEqs.refl _))).deq DEqs.nil)))),k102⟩))⟩⟩))⟩)⟩) (fun h96 k134=>chk k134.2 Cnd.ix ⟨(by decide),k134.1⟩ (fun h103 k132=>br k132 Cnd.eq (fun h104 k130=>br k130 Cnd.dec (fun h106 k122=>(f117.ei ⟨k122.1,⟨⟨rfl,(gY k122.2.1 (by decide))⟩,wrapK.i64 k122.2.2 (fun h112 h113 k114=>⟨(y88.1++([(dW ((mat y88.2.2.2.2 (((at_ a (at_ y88.2.1 y88.2.2.2.1)).1).2.2.2.2.2.2.1)).2))]),y88.2.1,y88.2.2.1,(y88.2.2.2.1+(1:Int)),y88.2.2.2.2),slQ (Rds.app (enc:=aI) (Rds.self (enc:=aI)) (Rds.one (enc:=aI) (DEqs.refl _))) (slQ (Rds.self (enc:=aC)) (⟨rfl,⟨rfl,SlS.mk  (mpK (Mds.self (enc:=aF)) (⟨(b8 (eF (gl aI y88.1) y88.1.length (fun _=>[.slice .ro 1 ((dW ((mat y88.2.2.2.2 (((at_ a (at_ y88.2.1 y88.2.2.2.1)).1).2.2.2.2.2.2.1)).2)).length) (gl aC (dW ((mat y88.2.2.2.2 (((at_ a (at_ y88.2.1 y88.2.2.2.1)).1).2.2.2.2.2.2.1)).2)))])) (Rds.app (enc:=aI) (Rds.self (enc:=aI)) (Rds.one (enc:=aI) (DEqs.refl _)))),k114⟩))⟩⟩))⟩)⟩⟩)) (fun h107 k123=>wrapK.i64 k123 (fun h119 h120 k121=>⟨(y88.1,y88.2.1,y88.2.2.1,(y88.2.2.2.1+(1:Int)),y88.2.2.2.2),slQ (Rds.self (enc:=aI)) (slQ (Rds.self (enc:=aC)) (⟨rfl,⟨rfl,SlS.mk  (mpK (Mds.self (enc:=aF)) (⟨(b8 (gl aI y88.1) (Rds.self (enc:=aI))),k121⟩))⟩⟩))⟩))) (fun h105 k131=>wrapK.i64 k131 (fun h127 h128 k129=>⟨(y88.1,y88.2.1,y88.2.2.1,(y88.2.2.2.1+(1:Int)),y88.2.2.2.2),slQ (Rds.self (enc:=aI)) (slQ (Rds.self (enc:=aC)) (⟨rfl,⟨rfl,SlS.mk  (mpK (Mds.self (enc:=aF)) (⟨(b8 (gl aI y88.1) (Rds.self (enc:=aI))),k129⟩))⟩⟩))⟩))))) (fun h94 k146=>br k146 Cnd.seq (fun h135 k143=>⟨⟨rfl,(gY k143.1 (by decide))⟩,wrapK.i64 k143.2 (fun h140 h141 k142=>⟨(y88.1++([[at_ y88.2.1 y88.2.2.2.1]]),y88.2.1,y88.2.2.1,(y88.2.2.2.1+(1:Int)),y88.2.2.2.2),slQ (Rds.app (enc:=aI) (Rds.self (enc:=aI)) (Rds.one (enc:=aI) (DEqs.cons ((Rds.one (enc:=aC) (DEqs.refl _))).deq DEqs.nil))) (slQ (Rds.self (enc:=aC)) (⟨rfl,⟨rfl,SlS.mk  (mpK (Mds.self (enc:=aF)) (⟨(b8 (eF (gl aI y88.1) y88.1.length (fun _=>[.slice .ro 1 1 (fun _=>[.int .i64 (at_ y88.2.1 y88.2.2.2.1)])])) (Rds.app (enc:=aI) (Rds.self (enc:=aI)) (Rds.one (enc:=aI) (DEqs.cons ((Rds.one (enc:=aC) (DEqs.refl _))).deq DEqs.nil)))),k142⟩))⟩⟩))⟩)⟩) (fun h136 k144=>k144))))) (fun h90 k151=>⟨rfl,slQ (Rds.to (Rds.self (enc:=aI)) k151) (trivial)⟩)⟩)))⟩))⟩)⟩)⟩⟩⟩⟩)⟩))
theorem f93.eq (a:List (aB)):(f93.af a).gives f93.env (f93.args a) (f93.blks a) (f93.res a) (f93.blks' a)=f93.tree a:=by kernel_rfl
set_option linter.unusedVariables false
def f96.ent (K:(aB×aB)→Prop) (t:aB×aB):Prop:=∃ c:aB×aB,(t.1.1.1=c.1.1.1)∧(t.1.1.2.1=c.1.1.2.1)∧(t.1.1.2.2.1=c.1.1.2.2.1)∧(t.1.1.2.2.2.1.1=c.1.1.2.2.2.1.1)∧(t.1.1.2.2.2.1.2.1=c.1.1.2.2.2.1.2.1)∧(t.1.1.2.2.2.1.2.2=c.1.1.2.2.2.1.2.2)∧SlQ t.1.1.2.2.2.2.1.length c.1.1.2.2.2.2.1.length (gl aY t.1.1.2.2.2.2.1) (gl aY c.1.1.2.2.2.2.1) ((t.1.1.2.2.2.2.2.1=c.1.1.2.2.2.2.2.1)∧(t.1.1.2.2.2.2.2.2.1=c.1.1.2.2.2.2.2.2.1)∧(t.1.1.2.2.2.2.2.2.2=c.1.1.2.2.2.2.2.2.2)∧(t.1.2.1=c.1.2.1)∧(t.1.2.2.1=c.1.2.2.1)∧(t.1.2.2.2=c.1.2.2.2)∧(t.2.1.1=c.2.1.1)∧(t.2.1.2.1=c.2.1.2.1)∧(t.2.1.2.2.1=c.2.1.2.2.1)∧(t.2.1.2.2.2.1.1=c.2.1.2.2.2.1.1)∧(t.2.1.2.2.2.1.2.1=c.2.1.2.2.2.1.2.1)∧(t.2.1.2.2.2.1.2.2=c.2.1.2.2.2.1.2.2)∧SlQ t.2.1.2.2.2.2.1.length c.2.1.2.2.2.2.1.length (gl aY t.2.1.2.2.2.2.1) (gl aY c.2.1.2.2.2.2.1) ((t.2.1.2.2.2.2.2.1=c.2.1.2.2.2.2.2.1)∧(t.2.1.2.2.2.2.2.2.1=c.2.1.2.2.2.2.2.2.1)∧(t.2.1.2.2.2.2.2.2.2=c.2.1.2.2.2.2.2.2.2)∧(t.2.2.1=c.2.2.1)∧(t.2.2.2.1=c.2.2.2.1)∧(t.2.2.2.2=c.2.2.2.2)∧K c))
theorem f96.ei {K:(aB×aB)→Prop} {t:aB×aB} (h:K t):f96.ent K t:=⟨t,⟨rfl,⟨rfl,⟨rfl,⟨rfl,⟨rfl,⟨rfl,slQ (Rds.self (enc:=aY)) (⟨rfl,⟨rfl,⟨rfl,⟨rfl,⟨rfl,⟨rfl,⟨rfl,⟨rfl,⟨rfl,⟨rfl,⟨rfl,⟨rfl,slQ (Rds.self (enc:=aY)) (⟨rfl,⟨rfl,⟨rfl,⟨rfl,⟨rfl,⟨rfl,h⟩⟩⟩⟩⟩⟩)⟩⟩⟩⟩⟩⟩⟩⟩⟩⟩⟩⟩)⟩⟩⟩⟩⟩⟩⟩
def f96.args (a:aB×aB):List D:=[.agg [.str a.1.1.1,.str a.1.1.2.1,.int .i64 a.1.1.2.2.1,.int .i64 a.1.1.2.2.2.1.1,.int .i64 a.1.1.2.2.2.1.2.1,.int .i64 a.1.1.2.2.2.1.2.2,.slice .ro 2 a.1.1.2.2.2.2.1.length (gl aY a.1.1.2.2.2.2.1),.str a.1.1.2.2.2.2.2.1,.str a.1.1.2.2.2.2.2.2.1,.int .i64 a.1.1.2.2.2.2.2.2.2,.int .i64 a.1.2.1,.str a.1.2.2.1,.int .i64 a.1.2.2.2],.agg [.str a.2.1.1,.str a.2.1.2.1,.int .i64 a.2.1.2.2.1,.int .i64 a.2.1.2.2.2.1.1,.int .i64 a.2.1.2.2.2.1.2.1,.int .i64 a.2.1.2.2.2.1.2.2,.slice .ro 2 a.2.1.2.2.2.2.1.length (gl aY a.2.1.2.2.2.2.1),.str a.2.1.2.2.2.2.2.1,.str a.2.1.2.2.2.2.2.2.1,.int .i64 a.2.1.2.2.2.2.2.2.2,.int .i64 a.2.2.1,.str a.2.2.2.1,.int .i64 a.2.2.2.2]]
def f96.blks (a:aB×aB):List (List D):=[]
def f96.res (a:aB×aB):List D:=[.bool (kE a)]
def f96.blks' (a:aB×aB):List (List D):=[]
def f96.C:aW:=FnC f96.args f96.blks (fun _=>True) f96.res f96.blks'
def f96.kills (a:aB×aB):List iG:=[]
def f96.cuts (a:aB×aB):List (Nat×Σ β:Type,β→Tm):=[]
def f96.af (a:aB×aB):AF:=AF.mk (.seq (.region [oT 2 0 .box [0],
 oT 3 1 .box [1],
 ⟨(some 4),2,.move,[.c (.bool false)],none⟩])
 (.seq (.region [oT 5 3 (.load true 13) [2],
 oT 6 4 (.load true 13) [3],
 oT 7 5 (.call false 116) [5,6],
 ⟨(some 8),9,(.bin .lss),[.t 7,.c (.int .i64 (0))],none⟩,
 oT 4 10 .move [8]])
 (.ret)))
 [.tmp 4] 0 7
def f96.env:Env:=[(116,f116.C)]
def f96.tree (a:aB×aB):Prop:=f116.ent (fun c1=>True∧((decide ((s7 c1) < (0:Int)))=(kE a))∧True) (a.1,a.2)
def f96.vc (a:aB×aB):Prop:=(decide ((s7 (a.1,a.2)) < (0:Int))=kE a)
set_option maxRecDepth 100000 in
set_option maxHeartbeats 2000000 in
theorem f96.of (a:aB×aB) (h:f96.vc a):f96.tree a:=(f116.ei ⟨trivial,⟨h,trivial⟩⟩)
theorem f96.eq (a:aB×aB):(f96.af a).gives f96.env (f96.args a) (f96.blks a) (f96.res a) (f96.blks' a)=f96.tree a:=by kernel_rfl
set_option linter.unusedVariables false
def f117.kills (a:List (Int)):List iG:=[]
def f117.cuts (a:List (Int)):List (Nat×Σ β:Type,β→Tm):=[]
def f117.af (a:List (Int)):AF:=AF.mk (.seq (.region [oT 2 0 (.nilSl 1) []])
 (.seq (.seq (.region [oT 3 1 .move [0],
 oT 4 2 (.isNil false false) [3]])
 (.cond (.t 4) (.seq (.region [oT 2 3 (.nilSl 1) []])
 (.ret)) (.skip)))
 (.seq (.region [oT 5 4 (.buildSlice 1 0 [.int .i64 (0)] []) [],
 oT 6 5 .move [0],
 oT 7 6 (.append 1 8) [5,6],
 oT 2 7 .move [7]])
 (.ret))))
 [.tmp 2] 0 7
def f117.env:Env:=[]
def f117.tree (a:List (Int)):Prop:=Br (Nat.beq a.length 0) (((0=0)∧SlQ 0 ((dW a).length) dA (gl aC (dW a)) (True))∧((kK ((0+a.length) * 8))∧(((0+a.length)=(0+a.length))∧SlQ (0+a.length) ((dW a).length) (eF (fun j=>List.take 1 (List.drop (j * 1) [])) 0 (gl aC a)) (gl aC (dW a)) (True)))) ((kK ((0+a.length) * 8))∧(((0+a.length)=(0+a.length))∧SlQ (0+a.length) ((dW a).length) (eF (fun j=>List.take 1 (List.drop (j * 1) [])) 0 (gl aC a)) (gl aC (dW a)) (True)))
def f117.vc (a:List (Int)):Prop:=((a.length=0→(([]=dW a)∧(0+a.length≤1073741824∧(([])++a=dW a))))∧(¬(a.length=0)→(0+a.length≤1073741824∧(([])++a=dW a))))
set_option maxRecDepth 100000 in
set_option maxHeartbeats 2000000 in
theorem f117.of (a:List (Int)) (h:f117.vc a):f117.tree a:=br h Cnd.beq (fun h1 k6=>⟨⟨rfl,slQ (Rds.to (Rds.nil (enc:=aC)) k6.1) (trivial)⟩,⟨(gY k6.2.1 (by decide)),⟨rfl,slQ (Rds.to (Rds.app (enc:=aC) (Rds.nil (enc:=aC)) (Rds.self (enc:=aC))) k6.2.2) (trivial)⟩⟩⟩) (fun h2 k7=>⟨(gY k7.1 (by decide)),⟨rfl,slQ (Rds.to (Rds.app (enc:=aC) (Rds.nil (enc:=aC)) (Rds.self (enc:=aC))) k7.2) (trivial)⟩⟩)
theorem f117.eq (a:List (Int)):(f117.af a).gives f117.env (f117.args a) (f117.blks a) (f117.res a) (f117.blks' a)=f117.tree a:=by kernel_rfl
set_option linter.unusedVariables false
theorem f117.ok (a:List Int) (h:L20 a):f117.vc a:=by
 have h:a.length≤1048576:=h
 refine ⟨fun c=>⟨?_,by omega,?_⟩,fun c=>⟨by omega,?_⟩⟩
 ·exact (List.length_eq_zero_iff.1 c).symm
 ·exact List.nil_append _
 ·exact List.nil_append _
theorem f96.ok (a:aT×aT) (_:True):f96.vc a:=rfl
theorem p0 {l:List aT}:iX l=true↔l.length≤100∧∀ i,i < l.length→(aS (l.getD i default)).size≤1000:=by
 unfold iX
 simp only [Bool.and_eq_true,decide_eq_true_eq,List.all_eq_true,List.mem_range]
theorem qT {l:List aT} (h:¬iX l=true):false=iX l:=(Bool.eq_false_iff.2 h).symm
theorem f92.ok (a:List aT) (h:L20 a):f92.vc a:=by
 have h:a.length≤1048576:=h
 refine ⟨fun c=>qT fun hh=>by have:=(p0.1 hh).1; omega,fun c=>?_⟩
 refine ⟨fun y=>0≤y∧y≤(a.length:Int)∧(∀ i,i < y.toNat→(aS (a.getD i default)).size≤1000),fun y=>a.length - y.toNat,⟨by omega,by omega,fun i hi=>by simp at hi⟩,fun y hy=>?_⟩
 obtain ⟨g0,g1,g2⟩:=hy
 refine ⟨fun hlt=>⟨g0,hlt,fun d=>qT fun hh=>?_,fun d=>⟨by omega,by omega,⟨by omega,by omega,fun i hi=>?_⟩,by simp only; omega⟩⟩,fun hge=>?_⟩
 ·have:=(p0.1 hh).2 y.toNat (by omega)
  have d:1000 < ((aS (a.getD y.toNat default)).size:Int):=d
  omega
 ·by_cases he:i=y.toNat
  ·subst he
   have d:¬1000 < ((aS (a.getD y.toNat default)).size:Int):=d
   omega
  ·exact g2 i (by omega)
 ·symm
  rw [p0]
  exact ⟨by omega,fun i hi=>g2 i (by omega)⟩
theorem kQ {js:List aT} {S:List Int} {k:Nat} (h:¬aS (at_ js (S.getD k default))=ByteArray.empty):lN js S k =
  if (∀ q,q < k→aS (at_ js (S.getD q default))≠aS (at_ js (S.getD k default)))∧aF5 (at_ js (S.getD k default))≤eJ (js,aS (at_ js (S.getD k default))) then
   [S.filter fun p=>decide (aS (at_ js p)=aS (at_ js (S.getD k default)))] else []:=if_neg h
theorem uM {js:List aT} {S:List Int} {k:Nat} (h:aS (at_ js (S.getD k default))=ByteArray.empty):lN js S k=[[S.getD k default]]:=if_pos h
def GMap (a:List aT) (i:Nat) (W:ByteArray→List Int) (m:List (ByteArray×Int×List Int)):Prop :=
 ∀ g,(iN m g=decide (0 < eJ (a.take i,g)))∧(iN m g=true→mat m g=(eJ (a.take i,g),W g))
theorem GMap.all {a:List aT} {m:List (ByteArray×Int×List Int)} {W:ByteArray→List Int} {i:Nat} (h:GMap a i W m) (hi:a.length≤i) {x:aT} (hx:x∈a):iN m (aS x)=true∧mat m (aS x)=(eJ (a,aS x),W (aS x)):=by
 obtain ⟨h1,h2⟩:=h (aS x)
 rw [List.take_of_length_le hi] at h1 h2
 have h3:iN m (aS x)=true:=by
  rw [h1]
  exact decide_eq_true (aD4 hx)
 exact ⟨h3,h2 h3⟩
theorem f93.ok (a:List aT) (h:fV a):f93.vc a:=by
 have h:a.length≤1048576:=h
 refine ⟨fun y=>0≤y.1∧y.1≤(a.length:Int)∧y.2.1=dT a y.1.toNat∧GMap a y.1.toNat (fun _=>[]) y.2.2,fun y=>a.length - y.1.toNat,⟨by simp only; omega,by simp only; omega,rfl,fun g=>⟨?_,fun c=>?_⟩⟩,fun y hy=>?_⟩
 ·rw [x5]
  rfl
 ·rw [x5] at c
  cases c
 obtain ⟨i,P,m⟩:=y
 obtain ⟨g0,g1,g2,g3⟩:=hy
 simp only at g0 g1 g2 g3 ⊢
 have hP:P.length≤i.toNat:=by
  rw [g2]
  exact oX a i.toNat
 have hi:((i.toNat:Nat):Int)=i:=by omega
 refine ⟨fun hlt=>?_,fun hge=>?_⟩
 ·have e:a.take (i+1).toNat=a.take i.toNat++[at_ a i]:=by
   rw [show (i+1).toNat=i.toNat+1 from by omega,nN (by omega)]
   rfl
  have step:∀ n:Int,n=eJ (a.take i.toNat,aS (at_ a i))+1→GMap a (i+1).toNat (fun _=>[]) (dL m (aS (at_ a i)) (n,[])):=fun n hn g=>by
   rw [sE,w3,e,aC3,(g3 g).1]
   have hb:=aBK (a.take i.toNat) g
   by_cases c:aS (at_ a i)=g
   ·subst c
    rw [if_pos rfl,if_pos rfl,decide_eq_true rfl,Bool.true_or]
    exact ⟨(decide_eq_true (by omega)).symm,fun _=>by rw [hn]⟩
   ·rw [if_neg c,if_neg c,decide_eq_false c,Bool.false_or,Int.add_zero]
    exact ⟨rfl,fun d=>(g3 g).2 (by rw [(g3 g).1]; exact d)⟩
  have hb:=aBK (a.take i.toNat) (aS (at_ a i))
  rw [List.length_take] at hb
  have pY:dS (at_ a i)=true→P++[i]=dT a (i+1).toNat:=fun c=>by
   rw [show (i+1).toNat=i.toNat+1 from by omega,wX (by rw [hi]; exact c),← g2,hi]
  have pN:¬dS (at_ a i)=true→P=dT a (i+1).toNat:=fun c=>by
   rw [show (i+1).toNat=i.toNat+1 from by omega,xP (by rw [hi]; exact c),← g2]
  refine ⟨g0,hlt,fun c=>?_,fun c=>?_⟩
  ·have hm:mat m (aS (at_ a i))=(eJ (a.take i.toNat,aS (at_ a i)),[]):=(g3 _).2 c
   have hm':mat m ((at_ a i).1).2.2.2.2.2.2.1=(eJ (a.take i.toNat,aS (at_ a i)),[]):=hm
   rw [hm']
   exact ⟨by omega,by omega,fun c2=>⟨by omega,by omega,by omega,⟨by omega,by omega,pY c2,step _ rfl⟩,by omega⟩,fun c2=>⟨by omega,by omega,⟨by omega,by omega,pN c2,step _ rfl⟩,by omega⟩⟩
  ·have c:¬iN m (aS (at_ a i))=true:=c
   rw [(g3 _).1,decide_eq_true_eq] at c
   have hz:(1:Int)=eJ (a.take i.toNat,aS (at_ a i))+1:=by omega
   exact ⟨fun c2=>⟨by omega,by omega,by omega,⟨by omega,by omega,pY c2,step _ hz⟩,by omega⟩,fun c2=>⟨by omega,by omega,⟨by omega,by omega,pN c2,step _ hz⟩,by omega⟩⟩
 ·have hia:i.toNat=a.length:=by omega
  rw [hia] at g2 g3
  have hP2:eY (P,a)=cT a:=by
   rw [g2]
   rfl
  have hlen:=mE a
  have hin:=sO a
  have hnd:=kW a
  refine ⟨⟨by simp only; omega,fun x hx=>?_⟩,cJ _,?_⟩
  ·rw [g2,oV] at hx
   exact hx.1
  ·rw [hP2]
   have hfin:bO a=eS a (cT a) (cT a).length:=rfl
   rw [hfin]
   generalize cT a=S at hlen hin hnd
   have gof:∀ {j:Int},0≤j→j < (S.length:Int)→at_ a (at_ S j)∈a:=fun h0 h1=>hJ (hin _ (hJ h0 h1)).1 (hin _ (hJ h0 h1)).2
   refine ⟨fun y=>y.1=S∧y.2.1=S∧y.2.2.1=(S.length:Int)∧0≤y.2.2.2.1∧y.2.2.2.1≤(S.length:Int)∧GMap a a.length (fun g=>(S.take y.2.2.2.1.toNat).filter fun p=>decide (aS (at_ a p)=g)) y.2.2.2.2,fun y=>S.length - y.2.2.2.1.toNat,⟨rfl,rfl,rfl,by simp only; omega,by simp only; omega,g3⟩,fun y hy=>?_⟩
   obtain ⟨S1,S2,n,j,m2⟩:=y
   obtain ⟨e1,e2,e3,e4,e5,e6⟩:=hy
   simp only at e1 e2 e3 e4 e5 e6 ⊢
   subst e1; subst e2; subst e3
   refine ⟨fun hj=>?_,fun hj=>?_⟩
   ·have hx:=hin _ (hJ e4 hj)
    obtain ⟨q1,q2⟩:=e6.all (Nat.le_refl _) (gof e4 hj)
    have q2':mat m2 ((at_ a (at_ S2 j)).1).2.2.2.2.2.2.1=(eJ (a,aS (at_ a (at_ S2 j))),(S2.take j.toNat).filter fun p=>decide (aS (at_ a p)=aS (at_ a (at_ S2 j)))):=q2
    refine ⟨e4,hj,hx.1,hx.2,fun c=>?_,fun c=>absurd q1 c⟩
    rw [q2']
    have hl:=List.length_filter_le (fun p=>decide (aS (at_ a p)=aS (at_ a (at_ S2 j)))) (S2.take j.toNat)
    rw [List.length_take] at hl
    refine ⟨by simp only; omega,hx.1,hx.2,by omega,by omega,⟨rfl,rfl,rfl,by omega,by omega,fun g=>?_⟩,by omega⟩
    have tk:S2.take (j+1).toNat=S2.take j.toNat++[at_ S2 j]:=by
     rw [show (j+1).toNat=j.toNat+1 from by omega,nN (by omega)]
     rfl
    have hs:=sE (aS (at_ a (at_ S2 j))) g (eJ (a,aS (at_ a (at_ S2 j))),((S2.take j.toNat).filter fun p=>decide (aS (at_ a p)=aS (at_ a (at_ S2 j))))++[at_ S2 j]) m2
    have ha:=w3 (aS (at_ a (at_ S2 j))) g (eJ (a,aS (at_ a (at_ S2 j))),((S2.take j.toNat).filter fun p=>decide (aS (at_ a p)=aS (at_ a (at_ S2 j))))++[at_ S2 j]) m2
    show (iN (dL m2 (aS (at_ a (at_ S2 j))) _) g=_)∧(iN (dL m2 (aS (at_ a (at_ S2 j))) _) g=true→mat (dL m2 (aS (at_ a (at_ S2 j))) _) g=_)
    rw [hs,ha,(e6 g).1,tk]
    simp only
    by_cases cg:aS (at_ a (at_ S2 j))=g
    ·subst cg
     rw [if_pos rfl,decide_eq_true rfl,Bool.true_or,List.filter_append,List.filter_cons_of_pos (p:=fun p=>decide (aS (at_ a p)=aS (at_ a (at_ S2 j)))) (decide_eq_true rfl),List.filter_nil]
     rw [(e6 _).1] at q1
     rw [List.take_of_length_le (Nat.le_refl _)] at q1 ⊢
     exact ⟨q1.symm,fun _=>rfl⟩
    ·rw [if_neg cg,decide_eq_false cg,Bool.false_or,List.filter_append,List.filter_cons_of_neg (p:=fun p=>decide (aS (at_ a p)=g)) (by simpa using cg),List.filter_nil,List.append_nil]
     exact ⟨rfl,fun d=>(e6 g).2 (by rw [(e6 g).1]; exact d)⟩
   ·have hjS:S2.take j.toNat=S2:=List.take_of_length_le (by omega)
    rw [hjS] at e6
    refine ⟨fun y=>y.2.1=S2∧y.2.2.1=(S2.length:Int)∧0≤y.2.2.2.1∧y.2.2.2.1≤(S2.length:Int)∧y.2.2.2.2=m2∧y.1=eS a S2 y.2.2.2.1.toNat,fun y=>S2.length - y.2.2.2.1.toNat,⟨rfl,rfl,by simp only; omega,by simp only; omega,rfl,rfl⟩,fun y hy=>?_⟩
    obtain ⟨out,S3,n3,k,m3⟩:=y
    obtain ⟨r1,r2,r3,r4,r5,r6⟩:=hy
    simp only at r1 r2 r3 r4 r5 r6 ⊢
    subst r1; subst r2; subst r5
    have hout:out.length≤k.toNat:=by
     rw [r6]
     exact qE _ _ _
    refine ⟨fun hk=>?_,fun hk=>?_⟩
    ·have hx:=hin _ (hJ r3 hk)
     obtain ⟨q1,q2⟩:=e6.all (Nat.le_refl _) (gof r3 hk)
     have q2':mat m3 ((at_ a (at_ S3 k)).1).2.2.2.2.2.2.1=(eJ (a,aS (at_ a (at_ S3 k))),S3.filter fun p=>decide (aS (at_ a p)=aS (at_ a (at_ S3 k)))):=q2
     have st:eS a S3 (k+1).toNat=out++lN a S3 k.toNat:=by
      rw [show (k+1).toNat=k.toNat+1 from by omega,kT,← r6]
     refine ⟨r3,hk,hx.1,hx.2,fun c=>⟨fun d=>⟨by omega,by omega,by omega,⟨rfl,rfl,by omega,by omega,rfl,?_⟩,by omega⟩,fun d=>?_⟩,fun c=>absurd q1 c⟩
     ·rw [st,uM d]
      rfl
     ·rw [q2']
      obtain ⟨w1,w2⟩:=qS hnd (j:=k.toNat) (by omega) (q:=fun p=>decide (aS (at_ a p)=aS (at_ a (at_ S3 k)))) (decide_eq_true rfl)
      have hl:=List.length_filter_le (fun p=>decide (aS (at_ a p)=aS (at_ a (at_ S3 k)))) S3
      have hfirst:at_ S3 k=at_ (S3.filter fun p=>decide (aS (at_ a p)=aS (at_ a (at_ S3 k)))) 0↔∀ q,q < k.toNat→aS (at_ a (S3.getD q default))≠aS (at_ a (S3.getD k.toNat default)):=by
       refine w2.trans (forall_congr' fun q=>imp_congr_right fun _=>?_)
       rw [decide_eq_false_iff_not]
       exact Iff.rfl
      refine ⟨by simp only; omega,fun c1=>⟨fun c2=>⟨?_,by omega,by omega,by omega,⟨rfl,rfl,by omega,by omega,rfl,?_⟩,by omega⟩,fun c2=>⟨by omega,by omega,⟨rfl,rfl,by omega,by omega,rfl,?_⟩,by omega⟩⟩,fun c1=>⟨by omega,by omega,⟨rfl,rfl,by omega,by omega,rfl,?_⟩,by omega⟩⟩
      ·show (S3.filter fun p=>decide (aS (at_ a p)=aS (at_ a (at_ S3 k)))).length≤1048576
       omega
      ·rw [st,kQ d,if_pos ⟨hfirst.1 c1,c2⟩]
       rfl
      ·rw [st,kQ d,if_neg fun e=>c2 e.2,List.append_nil]
      ·rw [st,kQ d,if_neg fun e=>c1 (hfirst.2 e.1),List.append_nil]
    ·rw [r6,show k.toNat=S3.length from by omega]
end Go.Abs
