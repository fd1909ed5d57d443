/- Functions, and what the code asks of them: POrd. -/
import Derived.KernelRfl
import Derived.Test.YtjlehbennimkgabOrderOnceP4
import Derived.Test.YtjlehbennimkgabOrderOnceP5
import Derived.Test.YtjlehbennimkgabOrderOnceP6
import Derived.Test.YtjlehbennimkgabOrderOnceP9
import Derived.Test.YtjlehbennimkgabOrderOnceP10
import Derived.Test.YtjlehbennimkgabOrderOnceP12
import Derived.Test.YtjlehbennimkgabOrderOnceP14
import Derived.Test.YtjlehbennimkgabOrderOnceP15
import Derived.Test.YtjlehbennimkgabOrderOnceP17
import Derived.Test.YtjlehbennimkgabOrderOnceP18
import Derived.Test.YtjlehbennimkgabOrderOnceP19
set_option maxRecDepth 100000
set_option maxHeartbeats 4000000
set_option linter.unusedVariables false
set_option linter.unusedSimpArgs false
namespace Go.Abs
open Go
section
variable {α:Type} [Inhabited α]
theorem x9 (k:ByteArray):iT ([]:List (ByteArray×α)) k=false:=decide_eq_false (Nat.lt_irrefl 0)
theorem j4 (x:ByteArray×α) (l:List (ByteArray×α)) (k:ByteArray):iT (x::l) k=(decide (x.1=k) || iT l k):=by
 obtain ⟨a,b⟩:=x
 unfold iT
 rw [List.length_cons,lT]
 by_cases h:a=k
 ·rw [if_pos h,decide_eq_true (Nat.succ_pos _),decide_eq_true h]
  rfl
 ·rw [if_neg h,decide_eq_false h,Bool.false_or]
  exact decide_eq_decide.2 (by omega)
theorem l5 (x:ByteArray×α) (l:List (ByteArray×α)) (k:ByteArray):mat (x::l) k=if x.1=k then x.2 else mat l k:=by
 obtain ⟨a,b⟩:=x
 unfold mat
 rw [List.length_cons,lT]
 by_cases h:a=k
 ·rw [if_pos h,if_pos h]
  rfl
 ·rw [if_neg h,if_neg h,List.getD_cons_succ]
theorem tH (k q:ByteArray) (v:α):∀ m:List (ByteArray×α),iT (dN m k v) q=(decide (k=q) || iT m q)
 | []=>by
  show iT [(k,v)] q=_
  rw [j4]
 | (a,b)::m=>by
  unfold dN
  by_cases h:a=k
  ·rw [if_pos h,j4,j4,h]
   simp only
   cases decide (k=q) <;> rfl
  ·rw [if_neg h,j4,tH k q v m,j4]
   simp only
   cases decide (k=q) <;> cases decide (a=q) <;> rfl
theorem wG (k q:ByteArray) (v:α):∀ m:List (ByteArray×α),mat (dN m k v) q=if k=q then v else mat m q
 | []=>by
  show mat [(k,v)] q=_
  rw [l5]
 | (a,b)::m=>by
  unfold dN
  by_cases h:a=k
  ·rw [if_pos h,l5,l5,h]
   simp only
   split <;> rfl
  ·rw [if_neg h,l5,wG k q v m,l5]
   simp only
   by_cases c:k=q
   ·rw [if_pos c,if_pos c,if_neg fun e=>h (e.trans c.symm)]
   ·rw [if_neg c,if_neg c]
end
theorem j8 {α:Type} [Inhabited α] {l:List α} {i:Nat} (h:i < l.length):l.take (i+1)=l.take i++[l.getD i default]:=by
 rw [cW h]
 exact (List.take_append_getElem h).symm
theorem nW (n:Nat):t8 (n+1)=t8 n++[(n:Int)]:=by
 unfold t8
 rw [List.range_succ,List.map_append]
 rfl
theorem vR {n:Nat} {i:Int}:i∈t8 n↔0≤i∧i < n:=by
 unfold t8
 rw [List.mem_map]
 constructor
 ·rintro ⟨k,hk,rfl⟩
  rw [List.mem_range] at hk
  exact ⟨Int.natCast_nonneg _,by show (k:Int) < n; omega⟩
 ·intro ⟨h0,h1⟩
  exact ⟨i.toNat,List.mem_range.2 (by omega),by show ((i.toNat:Nat):Int)=i; omega⟩
theorem aCG (n:Nat):(t8 n).length=n:=by
 unfold t8
 rw [List.length_map,List.length_range]
theorem y8 (n:Nat):(t8 n).Nodup:=by
 induction n with
 | zero=>exact List.nodup_nil
 | succ n ih =>
  rw [nW]
  refine List.nodup_append.2 ⟨ih,List.nodup_cons.2 ⟨List.not_mem_nil,List.nodup_nil⟩,fun a ha b hb=>?_⟩
  rw [List.mem_singleton.1 hb]
  have:=(vR.1 ha).2
  omega
theorem uS {α:Type} (lt:α→α→Bool) (x:α):∀ l,(sP lt x l).Perm (x::l)
 | []=>List.Perm.refl _
 | y::l=>by
  simp only [sP]
  split
  ·exact ((uS lt x l).cons y).trans (List.Perm.swap x y l)
  ·exact List.Perm.refl _
theorem sM {α:Type} (lt:α→α→Bool):∀ l,(bB lt l).Perm l
 | []=>List.Perm.refl _
 | x::l=>(uS lt x _).trans ((sM lt l).cons x)
theorem aGU (js:List aU):Weak (cC js):=by
 have key:∀ i j,cC js i j=true↔(at_ js j).1.2.2.1 < (at_ js i).1.2.2.1∨((at_ js j).1.2.2.1=(at_ js i).1.2.2.1∧(at_ js i).2.1 < (at_ js j).2.1):=fun i j=>by
  unfold cC jQ yS fG
  rw [decide_eq_true_eq]
  simp only [orI]
  constructor
  ·intro h
   split at h <;> split at h <;> (try split at h) <;> (try split at h) <;> (try split at h) <;> omega
  ·intro h
   split <;> split <;> (try split) <;> (try split) <;> (try split) <;> omega
 have kf:∀ i j,cC js i j=false↔¬((at_ js j).1.2.2.1 < (at_ js i).1.2.2.1∨((at_ js j).1.2.2.1=(at_ js i).1.2.2.1∧(at_ js i).2.1 < (at_ js j).2.1)):=fun i j=>by
  rw [← key]
  simp
 refine ⟨fun {x y} h=>?_,fun {x y z} h1 h2=>?_⟩
 ·rw [key] at h
  rw [kf]
  omega
 ·rw [kf] at h1 h2 ⊢
  omega
def dV (js:List aU) (k:Nat):List Int:=(t8 k).filter fun i=>dC (at_ js i)
theorem wX {js:List aU} {k:Nat} (h:dC (at_ js k)=true):dV js (k+1)=dV js k++[(k:Int)]:=by
 unfold dV
 rw [nW,List.filter_append,List.filter_cons_of_pos (p:=fun i=>dC (at_ js i)) h]
 rfl
theorem xO {js:List aU} {k:Nat} (h:¬dC (at_ js k)=true):dV js (k+1)=dV js k:=by
 unfold dV
 rw [nW,List.filter_append,List.filter_cons_of_neg (p:=fun i=>dC (at_ js i)) h]
 exact List.append_nil _
theorem oO (js:List aU) (k:Nat):(dV js k).length≤k:=Nat.le_trans (List.length_filter_le _ _) (Nat.le_of_eq (aCG k))
theorem pB {js:List aU} {k:Nat} {i:Int}:i∈dV js k↔(0≤i∧i < k)∧dC (at_ js i)=true:=by
 unfold dV
 rw [List.mem_filter,vR]
theorem t5 {js:List aU} {i:Int}:i∈cU js↔(0≤i∧i < (js.length:Int))∧dC (at_ js i)=true:=by
 unfold cU
 rw [qA (aGU js)]
 exact pB
theorem j9 (js:List aU):(cU js).Nodup:=(sM _ _).symm.nodup (List.Pairwise.filter _ (y8 _))
theorem mA (js:List aU):(cU js).length≤js.length:=by
 unfold cU
 rw [cJ]
 exact oO js js.length
theorem aAC (js:List aU):InR js (cU js):=fun _ h=>(t5.1 h).1
theorem aBX (l:List aU) (x:aU) (g:ByteArray):eR (l++[x],g)=eR (l,g)+if aN x=g then 1 else 0:=by
 unfold eR
 simp only
 rw [List.filter_append,List.length_append]
 by_cases c:aN x=g
 ·rw [List.filter_cons_of_pos (p:=fun j=>decide (aN j=g)) (decide_eq_true c),if_pos c]
  simp
 ·rw [List.filter_cons_of_neg (p:=fun j=>decide (aN j=g)) (by simpa using c),if_neg c]
  simp
theorem aA7 (l:List aU) (g:ByteArray):0≤eR (l,g)∧eR (l,g)≤(l.length:Int):=by
 have:=List.length_filter_le (fun j=>decide (aN j=g)) l
 unfold eR
 simp only
 omega
theorem aDJ {l:List aU} {x:aU} (h:x∈l):0 < eR (l,aN x):=by
 have:0 < (l.filter fun j=>decide (aN j=aN x)).length:=List.length_pos_of_mem (List.mem_filter.2 ⟨h,decide_eq_true rfl⟩)
 unfold eR
 simp only
 omega
theorem kF (js:List aU) (l:List Int) (n:Nat):d6 js l (n+1)=d6 js l n++jR js l n:=by
 unfold d6
 rw [List.range_succ,List.flatMap_append]
 simp
theorem u4 (js:List aU) (l:List Int) (n:Nat):(jR js l n).length≤1:=by
 unfold jR
 split
 ·exact Nat.le_refl _
 ·split
  ·exact Nat.le_refl _
  ·exact Nat.zero_le _
theorem qQ (js:List aU) (l:List Int) (n:Nat):(d6 js l n).length≤n:=by
 induction n with
 | zero=>exact Nat.le_refl _
 | succ n ih =>
  rw [kF,List.length_append]
  have:=u4 js l n
  omega
theorem qP {l:List Int} (hn:l.Nodup) {j:Nat} (hj:j < l.length) {q:Int→Bool} (hq:q (l.getD j default)=true) :
  0 < (l.filter q).length∧((l.getD j default=(l.filter q).getD 0 default)↔∀ k,k < j→q (l.getD k default)=false):=by
 have hs:l=l.take j++l.getD j default::l.drop (j+1):=by
  rw [cW hj,← List.drop_eq_getElem_cons hj,List.take_append_drop]
 have hf:l.filter q=(l.take j).filter q++l.getD j default::(l.drop (j+1)).filter q:=by
  conv=>lhs; rw [hs]
  rw [List.filter_append,List.filter_cons_of_pos hq]
 refine ⟨by rw [hf,List.length_append,List.length_cons]; omega,?_⟩
 rw [hf]
 cases hA:(l.take j).filter q with
 | nil =>
  refine ⟨fun _ k hk=>?_,fun _=>rfl⟩
  cases hc:q (l.getD k default) with
  | false=>rfl
  | true =>
   have:l.getD k default∈(l.take j).filter q:=by
    refine List.mem_filter.2 ⟨?_,hc⟩
    rw [cW (by omega)]
    exact List.mem_take_iff_getElem.2 ⟨k,by omega,rfl⟩
   rw [hA] at this
   cases this
 | cons x A =>
  have hx:x∈(l.take j).filter q:=by rw [hA]; exact List.mem_cons_self ..
  obtain ⟨hx1,hx2⟩:=List.mem_filter.1 hx
  obtain ⟨k,hk,hkx⟩:=List.mem_take_iff_getElem.1 hx1
  have hkj:k < j:=by omega
  refine ⟨fun e=>?_,fun h=>?_⟩
  ·have e:l.getD j default=x:=e
   have e2:l[k]=l[j]:=by rw [hkx,← e,cW hj]
   exact absurd e2 (List.pairwise_iff_getElem.1 hn k j (by omega) hj hkj)
  ·have:=h k hkj
   rw [cW (by omega),hkx,hx2] at this
   cases this
def f92.ent (K:(List (aB))→Prop) (t:List (aB)):Prop:=∃ c:List (aB),SlQ t.length c.length (gl aD t) (gl aD c) (K c)
theorem f92.ei {K:(List (aB))→Prop} {t:List (aB)} (h:K t):f92.ent K t:=⟨t,slQ (rS aD) (h)⟩
def f92.args (a:List (aB)):List D:=[.slice .ro 13 a.length (gl aD a)]
def f92.blks (a:List (aB)):List (List D):=[]
def f92.res (a:List (aB)):List D:=[.bool (i4 a)]
def f92.blks' (a:List (aB)):List (List D):=[]
def f92.C:aX:=FnC f92.args f92.blks (fun a=>L20 a) f92.res f92.blks'
set_option linter.unusedVariables false
def f92.S0 (a:List (aB)) (x:Int):Tm:=⟨[.slice .ro 13 a.length (gl aD a),.dead,.dead,.dead,.dead,.dead,.dead,.dead,.int .i64 (a.length:Int),.int .i64 x,.dead,.dead,.dead,.dead,.dead,.dead,.dead,.dead,.dead,.dead,.dead],[],[]⟩
def f92.kills (a:List (aB)):List iX:=[.tell Int (f92.S0 a)]
def f92.cuts (a:List (aB)):List (Nat×Σ β:Type,β→Tm):=[]
def f92.af (a:List (aB)):AF:=AF.mk (.seq (.region [⟨(some 2),0,.move,[.c (.bool false)],none⟩])
 (.seq (.seq (.region [oT 4 1 .move [0],
 oT 5 2 (.len false) [4],
 ⟨(some 6),3,(.bin .gtr),[.t 5,.c (.int .i64 (100))],none⟩])
 (.cond (.t 6) (.seq (.region [⟨(some 2),4,.move,[.c (.bool false)],none⟩])
 (.ret)) (.skip)))
 (.seq (.seq (.region [oT 7 5 .move [0],
 oT 8 6 (.len false) [7],
 ⟨(some 9),7,.move,[.c (.int .i64 (0))],none⟩])
 (.block 0 (.loopT Int (f92.S0 a) 8 22 (.seq (.region [oT 10 8 (.bin .lss) [9,8]])
 (.seq (.cond (.t 10) (.skip) (.exit 0))
 (.seq (.block 1 (.seq (.region [oT 11 9 .move [9],
 oT 3 10 .move [11]])
 (.seq (.region [oT 12 11 .move [0],
 oT 13 12 .move [3],
 oT 14 13 (.indexAddr 13 none) [12,13],
 oT 15 14 (.fieldAddr 0) [14],
 oT 16 15 (.fieldAddr 8) [15],
 oT 17 16 (.load false 1) [16],
 oT 18 17 (.len true) [17],
 ⟨(some 19),18,(.bin .gtr),[.t 18,.c (.int .i64 (1000))],none⟩])
 (.cond (.t 19) (.seq (.region [⟨(some 2),19,.move,[.c (.bool false)],none⟩])
 (.ret)) (.skip)))))
 (.region [⟨(some 20),20,(.bin .add),[.t 9,.c (.int .i64 (1))],none⟩,
 oT 9 21 .move [20]])))))))
 (.seq (.region [⟨(some 2),22,.move,[.c (.bool true)],none⟩])
 (.ret)))))
 [.tmp 2] 0 20
def f92.env:Env:=[]
def f92.tree (a:List (aB)):Prop:=Br (decide ((100:Int) < (a.length:Int))) ((false=(i4 a))∧True) (∃ (I5:Int→Prop) (μ6:Int→Nat),(∃ x4:Int,SlS aD a (((a.length:Int)=(a.length:Int))∧((0:Int)=x4)∧I5 x4))∧∀ y7:Int,I5 y7→(Br (decide (y7 < (a.length:Int))) (Br (decide ((0:Int)≤y7)&&decide (y7 < (a.length:Int))) (Br (decide ((1000:Int) < ((((at_ a y7).1).2.2.2.2.2.2.1).size:Int))) ((false=(i4 a))∧True) (Let (wI (y7+(1:Int))) (fun v14:Int=>∃ x15:Int,SlS aD a (((a.length:Int)=(a.length:Int))∧(v14=x15)∧I5 x15∧μ6 x15 < μ6 y7)))) False) ((true=(i4 a))∧True)))
def f92.vc (a:List (aB)):Prop:=(((100:Int) < (a.length:Int)→(false=i4 a))∧(¬((100:Int) < (a.length:Int))→(∃ (I5:Int→Prop) (μ6:Int→Nat),I5 (0:Int)∧∀ y7:Int,I5 y7→((y7 < (a.length:Int)→((0:Int)≤y7∧y7 < (a.length:Int)∧(((1000:Int) < ((((at_ a y7).1).2.2.2.2.2.2.1).size:Int)→(false=i4 a))∧(¬((1000:Int) < ((((at_ a y7).1).2.2.2.2.2.2.1).size:Int))→(-9223372036854775808≤(y7+(1:Int))∧(y7+(1:Int))≤9223372036854775807∧(I5 (y7+(1:Int))∧μ6 (y7+(1:Int)) < μ6 y7))))))∧(¬(y7 < (a.length:Int))→(true=i4 a))))))
theorem f92.of (a:List (aB)) (h:f92.vc a):f92.tree a:=br h Cnd.dec (fun h1 k29=>⟨k29,trivial⟩) (fun h2 k30=>Exists.elim k30 (fun I5 h26_=>Exists.elim h26_ (fun μ6 h26=>⟨I5,μ6,⟨(0:Int),SlS.mk  (⟨rfl,⟨rfl,h26.1⟩⟩)⟩,fun y7 h28=>br (h26.2 y7 h28) Cnd.dec (fun h8 k24=>chk k24.2.2 Cnd.ix ⟨k24.1,k24.2.1⟩ (fun h10 k22=>br k22 Cnd.dec (fun h11 k20=>⟨k20,trivial⟩) (fun h12 k21=>wrapK.i64 k21 (fun h17 h18 k19=>⟨(y7+(1:Int)),SlS.mk  (⟨rfl,⟨rfl,k19⟩⟩)⟩)))) (fun h9 k25=>⟨k25,trivial⟩)⟩)))
theorem f92.eq (a:List (aB)):(f92.af a).gives f92.env (f92.args a) (f92.blks a) (f92.res a) (f92.blks' a)=f92.tree a:=by kernel_rfl
def f93.ent (K:(List (aB))→Prop) (t:List (aB)):Prop:=∃ c:List (aB),SlQ t.length c.length (gl aD t) (gl aD c) (K c)
theorem f93.ei {K:(List (aB))→Prop} {t:List (aB)} (h:K t):f93.ent K t:=⟨t,slQ (rS aD) (h)⟩
def f93.args (a:List (aB)):List D:=[.slice .ro 13 a.length (gl aD a)]
def f93.blks (a:List (aB)):List (List D):=[]
def f93.res (a:List (aB)):List D:=[.slice .ro 1 ((bK a).length) (gl aL (bK a))]
def f93.blks' (a:List (aB)):List (List D):=[]
def f93.C:aX:=FnC f93.args f93.blks (fun a=>gA a) f93.res f93.blks'
def f117.ent (K:(List (Int))→Prop) (t:List (Int)):Prop:=∃ c:List (Int),SlQ t.length c.length (gl aC t) (gl aC c) (K c)
theorem f117.ei {K:(List (Int))→Prop} {t:List (Int)} (h:K t):f117.ent K t:=⟨t,slQ (rS aC) (h)⟩
def f117.args (a:List (Int)):List D:=[.slice .ro 1 a.length (gl aC a)]
def f117.blks (a:List (Int)):List (List D):=[]
def f117.res (a:List (Int)):List D:=[.slice .ro 1 ((dZ a).length) (gl aC (dZ a))]
def f117.blks' (a:List (Int)):List (List D):=[]
def f117.C:aX:=FnC f117.args f117.blks (fun a=>L20 a) f117.res f117.blks'
def f93.S0 (a:List (aB)) (x:Int×(List (Int))×(List (ByteArray×aH))):Tm:=⟨[.dead,.ptr 1000000 0,.dead,.msl 1000003 1 x.2.1.length,.mref 1000004,.dead,.dead,.dead,.dead,.dead,.dead,.dead,.dead,.dead,.dead,.dead,.dead,.slice .ro 13 a.length (gl aD a),.int .i64 (a.length:Int),.int .i64 x.1,.dead,.dead,.dead,.dead,.dead,.dead,.dead,.dead,.dead,.dead,.dead,.dead,.dead,.dead,.dead,.dead,.dead,.dead,.dead,.dead,.dead,.dead,.dead,.dead,.dead,.dead,.dead,.dead,.dead,.dead,.dead,.dead,.dead,.dead,.dead,.dead,.dead,.dead,.dead,.dead,.dead,.dead,.dead,.dead,.dead,.dead,.dead,.dead,.dead,.dead,.dead,.dead,.dead,.dead,.dead,.dead,.dead,.dead,.dead,.dead,.dead,.dead,.dead,.dead,.dead,.dead,.dead,.dead,.dead,.dead,.dead,.dead,.dead,.dead,.dead,.dead,.dead,.dead,.dead,.dead,.dead,.dead,.dead,.dead,.dead,.dead,.dead,.dead,.dead,.dead,.dead,.dead,.dead,.dead,.dead,.dead,.dead,.dead,.dead,.dead,.dead,.dead,.dead],[(1000000,false,[.slice .ro 13 a.length (gl aD a)]),(1000003,false,[.dead,.arr true 1 x.2.1.length (gl aC x.2.1)]),(1000004,false,[.nilp,.mp true x.2.2.length (mks x.2.2) (mvs aF x.2.2)])],[]⟩
def f93.S1 (a:List (aB)) (x:(List (Int))×(List (Int))×Int×Int×(List (ByteArray×aH))):Tm:=⟨[.dead,.ptr 1000000 0,.dead,.slice .ro 1 x.1.length (gl aC x.1),.mref 1000004,.dead,.dead,.dead,.dead,.dead,.dead,.dead,.dead,.dead,.dead,.dead,.dead,.dead,.dead,.dead,.dead,.dead,.dead,.dead,.dead,.dead,.dead,.dead,.dead,.dead,.dead,.dead,.dead,.dead,.dead,.dead,.dead,.dead,.dead,.dead,.dead,.dead,.dead,.dead,.dead,.dead,.dead,.dead,.slice .ro 1 x.2.1.length (gl aC x.2.1),.int .i64 x.2.2.1,.int .i64 x.2.2.2.1,.dead,.dead,.dead,.dead,.dead,.dead,.dead,.dead,.dead,.dead,.dead,.dead,.dead,.dead,.dead,.dead,.dead,.dead,.dead,.dead,.dead,.dead,.dead,.dead,.dead,.dead,.dead,.dead,.dead,.dead,.dead,.dead,.dead,.dead,.dead,.dead,.dead,.dead,.dead,.dead,.dead,.dead,.dead,.dead,.dead,.dead,.dead,.dead,.dead,.dead,.dead,.dead,.dead,.dead,.dead,.dead,.dead,.dead,.dead,.dead,.dead,.dead,.dead,.dead,.dead,.dead,.dead,.dead,.dead,.dead,.dead,.dead],[(1000000,true,[.slice .ro 13 a.length (gl aD a)]),(1000004,false,[.nilp,.mp true x.2.2.2.2.length (mks x.2.2.2.2) (mvs aF x.2.2.2.2)])],[]⟩
def f93.S2 (a:List (aB)) (x:(List (List (Int)))×(List (Int))×Int×Int×(List (ByteArray×aH))):Tm:=⟨[.dead,.ptr 1000000 0,.dead,.dead,.mref 1000004,.dead,.dead,.dead,.dead,.dead,.dead,.slice (.own 1000108) 1 x.1.length (gl aL x.1),.dead,.dead,.dead,.dead,.dead,.dead,.dead,.dead,.dead,.dead,.dead,.dead,.dead,.dead,.dead,.dead,.dead,.dead,.dead,.dead,.dead,.dead,.dead,.dead,.dead,.dead,.dead,.dead,.dead,.dead,.dead,.dead,.dead,.dead,.dead,.dead,.dead,.dead,.dead,.dead,.dead,.dead,.dead,.dead,.dead,.dead,.dead,.dead,.dead,.dead,.dead,.dead,.dead,.dead,.dead,.dead,.dead,.dead,.dead,.dead,.dead,.dead,.dead,.dead,.dead,.slice .ro 1 x.2.1.length (gl aC x.2.1),.int .i64 x.2.2.1,.int .i64 x.2.2.2.1,.dead,.dead,.dead,.dead,.dead,.dead,.dead,.dead,.dead,.dead,.dead,.dead,.dead,.dead,.dead,.dead,.dead,.dead,.dead,.dead,.dead,.dead,.dead,.dead,.dead,.dead,.dead,.dead,.dead,.dead,.dead,.dead,.dead,.dead,.dead,.dead,.dead,.dead,.dead,.dead,.dead,.dead,.dead],[(1000000,true,[.slice .ro 13 a.length (gl aD a)]),(1000004,false,[.dead,.mp true x.2.2.2.2.length (mks x.2.2.2.2) (mvs aF x.2.2.2.2)])],[(1000108,1,x.1.length)]⟩
def f93.kills (a:List (aB)):List iX:=[.tell (Int×(List (Int))×(List (ByteArray×aH))) (f93.S0 a),
 .tell ((List (Int))×(List (Int))×Int×Int×(List (ByteArray×aH))) (f93.S1 a),
 .tell ((List (List (Int)))×(List (Int))×Int×Int×(List (ByteArray×aH))) (f93.S2 a)]
def f93.cuts (a:List (aB)):List (Nat×Σ β:Type,β→Tm):=[(999999,⟨Unit,fun x=>⟨[],[],[]⟩⟩),
 (1000003000001,⟨Unit,fun x=>⟨[],[],[]⟩⟩),
 (2000003000013,⟨Unit,fun x=>⟨[],[],[]⟩⟩)]
def f93.af (a:List (aB)):AF:=AF.mk (.seq (.region [oR 1 0 .box [0],
 oR 2 1 (.nilSl 1) []])
 (.seq (.region [oR 3 2 (.nilSl 1) []])
 (.seq (.thaw 1000003 3) (.seq (.region [oR 16 4 (.mkMap true true) [],
 oR 4 5 .move [16]])
 (.seq (.seq (.region [oR 17 6 (.load false 1) [1],
 oR 18 7 (.len false) [17],
 ⟨(some 19),1000008,.move,[.c (.int .i64 (0))],none⟩])
 (.block 0 (.loopT (Int×(List (Int))×(List (ByteArray×aH))) (f93.S0 a) 1000009 1000063 (.seq (.region [oR 20 9 (.bin .lss) [19,18]])
 (.seq (.cond (.t 20) (.skip) (.exit 0))
 (.seq (.block 1 (.seq (.region [oR 21 10 .move [19],
 oR 22 11 (.indexAddr 13 none) [17,19],
 oR 23 12 (.load true 13) [22],
 oR 6 13 (.alloc [.str ByteArray.empty,.str ByteArray.empty,.int .i64 (0),.int .i64 (0),.int .i64 (0),.int .i64 (0),.slice (.own 0) 2 0 dB,.str ByteArray.empty,.str ByteArray.empty,.int .i64 (0),.int .i64 (0),.str ByteArray.empty,.int .i64 (0)]) [],
 oR 5 27 .move [21],
 ⟨none,1000028,(.store 13),[.t 6,.t 23],none⟩])
 (.seq (.region [oR 24 29 .move [4],
 oR 25 30 (.fieldAddr 0) [6],
 oR 26 31 (.fieldAddr 8) [25],
 oR 27 32 (.load false 1) [26],
 oR 28 33 (.mapGet false true [.int .i64 (0),.slice .full 1 0 dB]) [24,27],
 oR 7 36 (.alloc [.int .i64 (0),.slice (.own 0) 1 0 dB]) [],
 ⟨none,1000039,(.store 2),[.t 7,.t 28],none⟩])
 (.seq (.region [oR 29 40 (.fieldAddr 0) [7],
 oR 30 41 (.load false 1) [29],
 ⟨(some 31),1000042,(.bin .add),[.t 30,.c (.int .i64 (1))],none⟩,
 oR 32 43 (.fieldAddr 0) [7],
 ⟨none,1000044,(.store 1),[.t 32,.t 31],none⟩])
 (.seq (.region [oR 33 45 .move [4],
 oR 34 46 (.fieldAddr 0) [6],
 oR 35 47 (.fieldAddr 8) [34],
 oR 36 48 (.load false 1) [35],
 oR 37 49 (.load true 2) [7],
 ⟨none,1000050,.mapSet,[.t 33,.t 36,.t 37],none⟩])
 (.seq (.region [oR 38 51 (.load true 13) [6],
 oR 39 52 (.call false 33) [38]])
 (.cond (.t 39) (.region [oR 40 56 .move [3],
 oR 41 57 .move [5],
 oR 42 58 (.buildSlice 1 1 [.int .i64 (0)] [(0,1)]) [41],
 oR 43 59 (.append 1 8) [40,42],
 oR 3 60 .move [43]]) (.skip))))))))
 (.region [⟨(some 44),1000061,(.bin .add),[.t 19,.c (.int .i64 (1))],none⟩,
 oR 19 62 .move [44]])))))))
 (.seq (.region [oR 45 63 .move [3],
 oR 46 64 (.mkfunc 115 1000000) [1],
 oR 47 65 (.call true 114) [45,46]])
 (.seq (.frz 3) (.seq (.seq (.region [oR 48 69 .move [3],
 oR 49 70 (.len false) [48],
 ⟨(some 50),1000071,.move,[.c (.int .i64 (0))],none⟩])
 (.block 2 (.loopT ((List (Int))×(List (Int))×Int×Int×(List (ByteArray×aH))) (f93.S1 a) 1000072 1000108 (.seq (.region [oR 51 72 (.bin .lss) [50,49]])
 (.seq (.cond (.t 51) (.skip) (.exit 2))
 (.seq (.block 3 (.seq (.region [oR 52 73 (.indexAddr 1 none) [48,50],
 oR 53 74 (.load false 1) [52],
 oR 9 75 .move [53]])
 (.seq (.region [oR 54 76 .move [4],
 oR 55 77 (.load false 1) [1],
 oR 56 78 .move [9],
 oR 57 79 (.indexAddr 13 none) [55,56],
 oR 58 80 (.fieldAddr 0) [57],
 oR 59 81 (.fieldAddr 8) [58],
 oR 60 82 (.load false 1) [59],
 oR 61 83 (.mapGet false true [.int .i64 (0),.slice .full 1 0 dB]) [54,60],
 oR 10 86 (.alloc [.int .i64 (0),.slice (.own 0) 1 0 dB]) [],
 ⟨none,1000089,(.store 2),[.t 10,.t 61],none⟩])
 (.seq (.region [oR 62 90 (.fieldAddr 1) [10],
 oR 63 91 (.load false 1) [62],
 oR 64 92 .move [9],
 oR 65 93 (.buildSlice 1 1 [.int .i64 (0)] [(0,1)]) [64],
 oR 66 94 (.append 1 8) [63,65],
 oR 67 95 (.fieldAddr 1) [10],
 ⟨none,1000096,(.store 1),[.t 67,.t 66],none⟩])
 (.region [oR 68 97 .move [4],
 oR 69 98 (.load false 1) [1],
 oR 70 99 .move [9],
 oR 71 100 (.indexAddr 13 none) [69,70],
 oR 72 101 (.fieldAddr 0) [71],
 oR 73 102 (.fieldAddr 8) [72],
 oR 74 103 (.load false 1) [73],
 oR 75 104 (.load true 2) [10],
 ⟨none,1000105,.mapSet,[.t 68,.t 74,.t 75],none⟩])))))
 (.region [⟨(some 76),1000106,(.bin .add),[.t 50,.c (.int .i64 (1))],none⟩,
 oR 50 107 .move [76]])))))))
 (.seq (.region [oR 11 108 (.nilSl 1) []])
 (.seq (.seq (.region [oR 77 109 .move [3],
 oR 78 110 (.len false) [77],
 ⟨(some 79),1000111,.move,[.c (.int .i64 (0))],none⟩])
 (.block 4 (.loopT ((List (List (Int)))×(List (Int))×Int×Int×(List (ByteArray×aH))) (f93.S2 a) 1000112 1000179 (.seq (.region [oR 80 112 (.bin .lss) [79,78]])
 (.seq (.cond (.t 80) (.skip) (.exit 4))
 (.seq (.block 5 (.seq (.region [oR 81 113 (.indexAddr 1 none) [77,79],
 oR 82 114 (.load false 1) [81],
 oR 13 115 .move [82]])
 (.seq (.region [oR 83 116 (.load false 1) [1],
 oR 84 117 .move [13],
 oR 85 118 (.indexAddr 13 none) [83,84],
 oR 86 119 (.fieldAddr 0) [85],
 oR 87 120 (.load true 10) [86],
 oR 14 121 (.alloc [.str ByteArray.empty,.str ByteArray.empty,.int .i64 (0),.int .i64 (0),.int .i64 (0),.int .i64 (0),.slice (.own 0) 2 0 dB,.str ByteArray.empty,.str ByteArray.empty,.int .i64 (0)]) [],
 ⟨none,1000132,(.store 10),[.t 14,.t 87],none⟩])
 (.seq (.region [oR 88 133 .move [4],
 oR 89 134 (.fieldAddr 8) [14],
 oR 90 135 (.load false 1) [89],
 oR 91 136 (.mapGet false true [.int .i64 (0),.slice .full 1 0 dB]) [88,90],
 oR 15 139 (.alloc [.int .i64 (0),.slice (.own 0) 1 0 dB]) [],
 ⟨none,1000142,(.store 2),[.t 15,.t 91],none⟩])
 (.block 6 (.seq (.region [oR 93 143 (.fieldAddr 8) [14],
 oR 94 144 (.load false 1) [93],
 ⟨(some 95),1000145,(.bin .eql),[.t 94,.c (.str ByteArray.empty)],none⟩,
 oR 92 146 .move [95]])
 (.cond (.t 92) (.region [oR 96 147 .move [11],
 oR 97 148 .move [13],
 oR 98 149 (.buildSlice 1 1 [.int .i64 (0)] [(0,1)]) [97],
 oR 99 150 (.buildSlice 1 1 [.slice .full 1 0 dB] [(0,1)]) [98],
 oR 100 151 (.append 1 24) [96,99],
 oR 11 152 .move [100]]) (.seq (.region [oR 102 153 .move [13],
 oR 103 154 (.fieldAddr 1) [15],
 oR 104 155 (.load false 1) [103],
 ⟨(some 105),1000156,(.indexAddr 1 none),[.t 104,.c (.int .i64 (0))],none⟩,
 oR 106 157 (.load false 1) [105],
 oR 107 158 (.bin .eql) [102,106],
 oR 108 159 .move [107],
 oG 109 1000160 (.fieldAddr 0) [15] 108 true,
 oG 110 1000161 (.load false 1) [109] 108 true,
 oG 111 1000162 (.fieldAddr 9) [14] 108 true,
 oG 112 1000163 (.load false 1) [111] 108 true,
 oG 113 1000164 (.bin .geq) [110,112] 108 true,
 ⟨(some 114),1000165,.pick,[.t 108,.t 113,.c (.bool false)],none⟩,
 oR 101 166 .move [114]])
 (.cond (.t 101) (.region [oR 115 167 .move [11],
 oR 116 168 (.fieldAddr 1) [15],
 oR 117 169 (.load false 1) [116],
 oR 118 170 (.call true 117) [117],
 oR 119 174 (.buildSlice 1 1 [.slice .full 1 0 dB] [(0,1)]) [118],
 oR 120 175 (.append 1 24) [115,119],
 oR 11 176 .move [120]]) (.skip))))))))))
 (.region [⟨(some 121),1000177,(.bin .add),[.t 79,.c (.int .i64 (1))],none⟩,
 oR 79 178 .move [121]])))))))
 (.seq (.region [oR 122 179 .move [11],
 oR 2 180 .move [122]])
 (.ret))))))))))))
 [.tmp 2] 0 122
def f93.env:Env:=[(33,f33.C),(114,f114.C),(117,f117.C)]
def f93.tree (a:List (aB)):Prop:=∃ (I2:(Int×(List (Int))×(List (ByteArray×aH)))→Prop) (μ3:(Int×(List (Int))×(List (ByteArray×aH)))→Nat),(∃ x1:Int×(List (Int))×(List (ByteArray×aH)),(0=x1.2.1.length)∧SlS aD a (((a.length:Int)=(a.length:Int))∧((0:Int)=x1.1)∧SlS aD a (SlQ 0 x1.2.1.length dB (gl aC x1.2.1) ((0=x1.2.2.length)∧(∀ i,i < x1.2.2.length→(fun _=>.empty) i=(mks x1.2.2) i)∧(∀ i,i < x1.2.2.length→DEqs (dB i) ((mvs aF x1.2.2) i))∧I2 x1))))∧∀ y4:Int×(List (Int))×(List (ByteArray×aH)),I2 y4→(Br (decide (y4.1 < (a.length:Int))) (Br (decide ((0:Int)≤y4.1)&&decide (y4.1 < (a.length:Int))) (Br (iT y4.2.2 (((at_ a y4.1).1).2.2.2.2.2.2.1)) (Let (wI (((mat y4.2.2 (((at_ a y4.1).1).2.2.2.2.2.2.1)).1)+(1:Int))) (fun v10:Int=>((((at_ a y4.1).1).2.2.2.2.2.2.1)=(((at_ a y4.1).1).2.2.2.2.2.2.1)∧(((mat y4.2.2 (((at_ a y4.1).1).2.2.2.2.2.2.1)).2).length)=(((mat y4.2.2 (((at_ a y4.1).1).2.2.2.2.2.2.1)).2).length)∧True)∧(f33.ent (fun c11=>True∧Br (dC c11) ((y4.2.1.length=y4.2.1.length∧iD ((y4.2.1.length+1) * 8))∧(Let (wI (y4.1+(1:Int))) (fun v14:Int=>∃ x15:Int×(List (Int))×(List (ByteArray×aH)),((y4.2.1.length+1)=x15.2.1.length)∧SlS aD a (((a.length:Int)=(a.length:Int))∧(v14=x15.1)∧SlS aD a (SlQ (y4.2.1.length+1) x15.2.1.length (eG (gl aC y4.2.1) y4.2.1.length (fun _=>[.int .i64 y4.1])) (gl aC x15.2.1) (((mpN (mks y4.2.2) (((at_ a y4.1).1).2.2.2.2.2.2.1) y4.2.2.length)=x15.2.2.length)∧(∀ i,i < x15.2.2.length→(iV (mks y4.2.2) (((at_ a y4.1).1).2.2.2.2.2.2.1) y4.2.2.length) i=(mks x15.2.2) i)∧(∀ i,i < x15.2.2.length→DEqs ((gW (mks y4.2.2) (mvs aF y4.2.2) (((at_ a y4.1).1).2.2.2.2.2.2.1) [.int .i64 v10,.slice .ro 1 (((mat y4.2.2 (((at_ a y4.1).1).2.2.2.2.2.2.1)).2).length) (gl aC ((mat y4.2.2 (((at_ a y4.1).1).2.2.2.2.2.2.1)).2))] y4.2.2.length) i) ((mvs aF x15.2.2) i))∧I2 x15∧μ3 x15 < μ3 y4)))))) (Let (wI (y4.1+(1:Int))) (fun v20:Int=>∃ x21:Int×(List (Int))×(List (ByteArray×aH)),(y4.2.1.length=x21.2.1.length)∧SlS aD a (((a.length:Int)=(a.length:Int))∧(v20=x21.1)∧SlS aD a (SlQ y4.2.1.length x21.2.1.length (gl aC y4.2.1) (gl aC x21.2.1) (((mpN (mks y4.2.2) (((at_ a y4.1).1).2.2.2.2.2.2.1) y4.2.2.length)=x21.2.2.length)∧(∀ i,i < x21.2.2.length→(iV (mks y4.2.2) (((at_ a y4.1).1).2.2.2.2.2.2.1) y4.2.2.length) i=(mks x21.2.2) i)∧(∀ i,i < x21.2.2.length→DEqs ((gW (mks y4.2.2) (mvs aF y4.2.2) (((at_ a y4.1).1).2.2.2.2.2.2.1) [.int .i64 v10,.slice .ro 1 (((mat y4.2.2 (((at_ a y4.1).1).2.2.2.2.2.2.1)).2).length) (gl aC ((mat y4.2.2 (((at_ a y4.1).1).2.2.2.2.2.2.1)).2))] y4.2.2.length) i) ((mvs aF x21.2.2) i))∧I2 x21∧μ3 x21 < μ3 y4)))))) (at_ a y4.1)))) (((((at_ a y4.1).1).2.2.2.2.2.2.1)=(((at_ a y4.1).1).2.2.2.2.2.2.1)∧True)∧(f33.ent (fun c32=>True∧Br (dC c32) ((y4.2.1.length=y4.2.1.length∧iD ((y4.2.1.length+1) * 8))∧(Let (wI (y4.1+(1:Int))) (fun v35:Int=>∃ x36:Int×(List (Int))×(List (ByteArray×aH)),((y4.2.1.length+1)=x36.2.1.length)∧SlS aD a (((a.length:Int)=(a.length:Int))∧(v35=x36.1)∧SlS aD a (SlQ (y4.2.1.length+1) x36.2.1.length (eG (gl aC y4.2.1) y4.2.1.length (fun _=>[.int .i64 y4.1])) (gl aC x36.2.1) (((mpN (mks y4.2.2) (((at_ a y4.1).1).2.2.2.2.2.2.1) y4.2.2.length)=x36.2.2.length)∧(∀ i,i < x36.2.2.length→(iV (mks y4.2.2) (((at_ a y4.1).1).2.2.2.2.2.2.1) y4.2.2.length) i=(mks x36.2.2) i)∧(∀ i,i < x36.2.2.length→DEqs ((gW (mks y4.2.2) (mvs aF y4.2.2) (((at_ a y4.1).1).2.2.2.2.2.2.1) [.int .i64 (1:Int),.slice .ro 1 0 dB] y4.2.2.length) i) ((mvs aF x36.2.2) i))∧I2 x36∧μ3 x36 < μ3 y4)))))) (Let (wI (y4.1+(1:Int))) (fun v41:Int=>∃ x42:Int×(List (Int))×(List (ByteArray×aH)),(y4.2.1.length=x42.2.1.length)∧SlS aD a (((a.length:Int)=(a.length:Int))∧(v41=x42.1)∧SlS aD a (SlQ y4.2.1.length x42.2.1.length (gl aC y4.2.1) (gl aC x42.2.1) (((mpN (mks y4.2.2) (((at_ a y4.1).1).2.2.2.2.2.2.1) y4.2.2.length)=x42.2.2.length)∧(∀ i,i < x42.2.2.length→(iV (mks y4.2.2) (((at_ a y4.1).1).2.2.2.2.2.2.1) y4.2.2.length) i=(mks x42.2.2) i)∧(∀ i,i < x42.2.2.length→DEqs ((gW (mks y4.2.2) (mvs aF y4.2.2) (((at_ a y4.1).1).2.2.2.2.2.2.1) [.int .i64 (1:Int),.slice .ro 1 0 dB] y4.2.2.length) i) ((mvs aF x42.2.2) i))∧I2 x42∧μ3 x42 < μ3 y4)))))) (at_ a y4.1)))) False) ((y4.2.1.length=y4.2.1.length)∧∃ c53:(List (Int))×(List (aB)),(y4.2.1.length=List.length c53.1)∧(DEqs [.eptr [.slice .ro 13 a.length (gl aD a)]] [.eptr [.slice .ro 13 c53.2.length (gl aD c53.2)]])∧SlQ y4.2.1.length c53.1.length (gl aC y4.2.1) (gl aC c53.1) ((nB c53)∧((List.length (fA c53))=y4.2.1.length)∧(∃ (I56:((List (Int))×(List (Int))×Int×Int×(List (ByteArray×aH)))→Prop) (μ57:((List (Int))×(List (Int))×Int×Int×(List (ByteArray×aH)))→Nat),(∃ x55:(List (Int))×(List (Int))×Int×Int×(List (ByteArray×aH)),SlQ (List.length (fA c53)) x55.1.length (gl aC (fA c53)) (gl aC x55.1) (SlQ (List.length (fA c53)) x55.2.1.length (gl aC (fA c53)) (gl aC x55.2.1) (((List.length (fA c53):Int)=x55.2.2.1)∧((0:Int)=x55.2.2.2.1)∧SlS aD a ((y4.2.2.length=x55.2.2.2.2.length)∧(∀ i,i < x55.2.2.2.2.length→(mks y4.2.2) i=(mks x55.2.2.2.2) i)∧(∀ i,i < x55.2.2.2.2.length→DEqs ((mvs aF y4.2.2) i) ((mvs aF x55.2.2.2.2) i))∧I56 x55))))∧∀ y58:(List (Int))×(List (Int))×Int×Int×(List (ByteArray×aH)),I56 y58→(Br (decide (y58.2.2.2.1 < y58.2.2.1)) (Br (decide ((0:Int)≤y58.2.2.2.1)&&decide (y58.2.2.2.1 < (y58.2.1.length:Int))) (Br (decide ((0:Int)≤(at_ y58.2.1 y58.2.2.2.1))&&decide ((at_ y58.2.1 y58.2.2.2.1) < (a.length:Int))) (Br (iT y58.2.2.2.2 (((at_ a (at_ y58.2.1 y58.2.2.2.1)).1).2.2.2.2.2.2.1)) (((((mat y58.2.2.2.2 (((at_ a (at_ y58.2.1 y58.2.2.2.1)).1).2.2.2.2.2.2.1)).2).length)=(((mat y58.2.2.2.2 (((at_ a (at_ y58.2.1 y58.2.2.2.1)).1).2.2.2.2.2.2.1)).2).length)∧iD (((((mat y58.2.2.2.2 (((at_ a (at_ y58.2.1 y58.2.2.2.1)).1).2.2.2.2.2.2.1)).2).length)+1) * 8))∧(Br (decide ((0:Int)≤(at_ y58.2.1 y58.2.2.2.1))&&decide ((at_ y58.2.1 y58.2.2.2.1) < (a.length:Int))) (((((at_ a (at_ y58.2.1 y58.2.2.2.1)).1).2.2.2.2.2.2.1)=(((at_ a (at_ y58.2.1 y58.2.2.2.1)).1).2.2.2.2.2.2.1)∧((((mat y58.2.2.2.2 (((at_ a (at_ y58.2.1 y58.2.2.2.1)).1).2.2.2.2.2.2.1)).2).length)+1)=((((mat y58.2.2.2.2 (((at_ a (at_ y58.2.1 y58.2.2.2.1)).1).2.2.2.2.2.2.1)).2).length)+1)∧True)∧(Let (wI (y58.2.2.2.1+(1:Int))) (fun v66:Int=>∃ x67:(List (Int))×(List (Int))×Int×Int×(List (ByteArray×aH)),SlQ y58.1.length x67.1.length (gl aC y58.1) (gl aC x67.1) (SlQ y58.2.1.length x67.2.1.length (gl aC y58.2.1) (gl aC x67.2.1) ((y58.2.2.1=x67.2.2.1)∧(v66=x67.2.2.2.1)∧SlS aD a (((mpN (mks y58.2.2.2.2) (((at_ a (at_ y58.2.1 y58.2.2.2.1)).1).2.2.2.2.2.2.1) y58.2.2.2.2.length)=x67.2.2.2.2.length)∧(∀ i,i < x67.2.2.2.2.length→(iV (mks y58.2.2.2.2) (((at_ a (at_ y58.2.1 y58.2.2.2.1)).1).2.2.2.2.2.2.1) y58.2.2.2.2.length) i=(mks x67.2.2.2.2) i)∧(∀ i,i < x67.2.2.2.2.length→DEqs ((gW (mks y58.2.2.2.2) (mvs aF y58.2.2.2.2) (((at_ a (at_ y58.2.1 y58.2.2.2.1)).1).2.2.2.2.2.2.1) [.int .i64 ((mat y58.2.2.2.2 (((at_ a (at_ y58.2.1 y58.2.2.2.1)).1).2.2.2.2.2.2.1)).1),.slice .ro 1 ((((mat y58.2.2.2.2 (((at_ a (at_ y58.2.1 y58.2.2.2.1)).1).2.2.2.2.2.2.1)).2).length)+1) (eG (gl aC ((mat y58.2.2.2.2 (((at_ a (at_ y58.2.1 y58.2.2.2.1)).1).2.2.2.2.2.2.1)).2)) (((mat y58.2.2.2.2 (((at_ a (at_ y58.2.1 y58.2.2.2.1)).1).2.2.2.2.2.2.1)).2).length) (fun _=>[.int .i64 (at_ y58.2.1 y58.2.2.2.1)]))] y58.2.2.2.2.length) i) ((mvs aF x67.2.2.2.2) i))∧I56 x67∧μ57 x67 < μ57 y58)))))) False)) ((iD ((0+1) * 8))∧(Br (decide ((0:Int)≤(at_ y58.2.1 y58.2.2.2.1))&&decide ((at_ y58.2.1 y58.2.2.2.1) < (a.length:Int))) (((((at_ a (at_ y58.2.1 y58.2.2.2.1)).1).2.2.2.2.2.2.1)=(((at_ a (at_ y58.2.1 y58.2.2.2.1)).1).2.2.2.2.2.2.1)∧1=1∧True)∧(Let (wI (y58.2.2.2.1+(1:Int))) (fun v74:Int=>∃ x75:(List (Int))×(List (Int))×Int×Int×(List (ByteArray×aH)),SlQ y58.1.length x75.1.length (gl aC y58.1) (gl aC x75.1) (SlQ y58.2.1.length x75.2.1.length (gl aC y58.2.1) (gl aC x75.2.1) ((y58.2.2.1=x75.2.2.1)∧(v74=x75.2.2.2.1)∧SlS aD a (((mpN (mks y58.2.2.2.2) (((at_ a (at_ y58.2.1 y58.2.2.2.1)).1).2.2.2.2.2.2.1) y58.2.2.2.2.length)=x75.2.2.2.2.length)∧(∀ i,i < x75.2.2.2.2.length→(iV (mks y58.2.2.2.2) (((at_ a (at_ y58.2.1 y58.2.2.2.1)).1).2.2.2.2.2.2.1) y58.2.2.2.2.length) i=(mks x75.2.2.2.2) i)∧(∀ i,i < x75.2.2.2.2.length→DEqs ((gW (mks y58.2.2.2.2) (mvs aF y58.2.2.2.2) (((at_ a (at_ y58.2.1 y58.2.2.2.1)).1).2.2.2.2.2.2.1) [.int .i64 (0:Int),.slice .ro 1 1 (eG dB 0 (fun _=>[.int .i64 (at_ y58.2.1 y58.2.2.2.1)]))] y58.2.2.2.2.length) i) ((mvs aF x75.2.2.2.2) i))∧I56 x75∧μ57 x75 < μ57 y58)))))) False))) False) False) (∃ (I86:((List (List (Int)))×(List (Int))×Int×Int×(List (ByteArray×aH)))→Prop) (μ87:((List (List (Int)))×(List (Int))×Int×Int×(List (ByteArray×aH)))→Nat),(∃ x85:(List (List (Int)))×(List (Int))×Int×Int×(List (ByteArray×aH)),SlQ 0 x85.1.length dB (gl aL x85.1) (SlQ y58.1.length x85.2.1.length (gl aC y58.1) (gl aC x85.2.1) (((y58.1.length:Int)=x85.2.2.1)∧((0:Int)=x85.2.2.2.1)∧SlS aD a ((y58.2.2.2.2.length=x85.2.2.2.2.length)∧(∀ i,i < x85.2.2.2.2.length→(mks y58.2.2.2.2) i=(mks x85.2.2.2.2) i)∧(∀ i,i < x85.2.2.2.2.length→DEqs ((mvs aF y58.2.2.2.2) i) ((mvs aF x85.2.2.2.2) i))∧(0=x85.1.length)∧I86 x85))))∧∀ y88:(List (List (Int)))×(List (Int))×Int×Int×(List (ByteArray×aH)),I86 y88→(Br (decide (y88.2.2.2.1 < y88.2.2.1)) (Br (decide ((0:Int)≤y88.2.2.2.1)&&decide (y88.2.2.2.1 < (y88.2.1.length:Int))) (Br (decide ((0:Int)≤(at_ y88.2.1 y88.2.2.2.1))&&decide ((at_ y88.2.1 y88.2.2.2.1) < (a.length:Int))) (Br (iT y88.2.2.2.2 (((at_ a (at_ y88.2.1 y88.2.2.2.1)).1).2.2.2.2.2.2.1)) (Br ((((at_ a (at_ y88.2.1 y88.2.2.2.1)).1).2.2.2.2.2.2.1).toList==ByteArray.empty.toList) ((y88.1.length=y88.1.length∧iD ((y88.1.length+1) * 24))∧(Let (wI (y88.2.2.2.1+(1:Int))) (fun v97:Int=>∃ x98:(List (List (Int)))×(List (Int))×Int×Int×(List (ByteArray×aH)),SlQ (y88.1.length+1) x98.1.length (eG (gl aL y88.1) y88.1.length (fun _=>[.slice .ro 1 1 (fun _=>[.int .i64 (at_ y88.2.1 y88.2.2.2.1)])])) (gl aL x98.1) (SlQ y88.2.1.length x98.2.1.length (gl aC y88.2.1) (gl aC x98.2.1) ((y88.2.2.1=x98.2.2.1)∧(v97=x98.2.2.2.1)∧SlS aD a ((y88.2.2.2.2.length=x98.2.2.2.2.length)∧(∀ i,i < x98.2.2.2.2.length→(mks y88.2.2.2.2) i=(mks x98.2.2.2.2) i)∧(∀ i,i < x98.2.2.2.2.length→DEqs ((mvs aF y88.2.2.2.2) i) ((mvs aF x98.2.2.2.2) i))∧((y88.1.length+1)=x98.1.length)∧I86 x98∧μ87 x98 < μ87 y88)))))) (Br (decide ((0:Int)≤(0:Int))&&decide ((0:Int) < (((mat y88.2.2.2.2 (((at_ a (at_ y88.2.1 y88.2.2.2.1)).1).2.2.2.2.2.2.1)).2).length:Int))) (Br ((at_ y88.2.1 y88.2.2.2.1)==(at_ ((mat y88.2.2.2.2 (((at_ a (at_ y88.2.1 y88.2.2.2.1)).1).2.2.2.2.2.2.1)).2) (0:Int))) (Br (decide ((((at_ a (at_ y88.2.1 y88.2.2.2.1)).1).2.2.2.2.2.2.2)≤((mat y88.2.2.2.2 (((at_ a (at_ y88.2.1 y88.2.2.2.1)).1).2.2.2.2.2.2.1)).1))) (f117.ent (fun c108=>(L20 c108)∧(y88.1.length=y88.1.length∧iD ((y88.1.length+1) * 24))∧(Let (wI (y88.2.2.2.1+(1:Int))) (fun v109:Int=>∃ x110:(List (List (Int)))×(List (Int))×Int×Int×(List (ByteArray×aH)),SlQ (y88.1.length+1) x110.1.length (eG (gl aL y88.1) y88.1.length (fun _=>[.slice .ro 1 ((dZ c108).length) (gl aC (dZ c108))])) (gl aL x110.1) (SlQ y88.2.1.length x110.2.1.length (gl aC y88.2.1) (gl aC x110.2.1) ((y88.2.2.1=x110.2.2.1)∧(v109=x110.2.2.2.1)∧SlS aD a ((y88.2.2.2.2.length=x110.2.2.2.2.length)∧(∀ i,i < x110.2.2.2.2.length→(mks y88.2.2.2.2) i=(mks x110.2.2.2.2) i)∧(∀ i,i < x110.2.2.2.2.length→DEqs ((mvs aF y88.2.2.2.2) i) ((mvs aF x110.2.2.2.2) i))∧((y88.1.length+1)=x110.1.length)∧I86 x110∧μ87 x110 < μ87 y88)))))) ((mat y88.2.2.2.2 (((at_ a (at_ y88.2.1 y88.2.2.2.1)).1).2.2.2.2.2.2.1)).2)) (Let (wI (y88.2.2.2.1+(1:Int))) (fun v116:Int=>∃ x117:(List (List (Int)))×(List (Int))×Int×Int×(List (ByteArray×aH)),SlQ y88.1.length x117.1.length (gl aL y88.1) (gl aL x117.1) (SlQ y88.2.1.length x117.2.1.length (gl aC y88.2.1) (gl aC x117.2.1) ((y88.2.2.1=x117.2.2.1)∧(v116=x117.2.2.2.1)∧SlS aD a ((y88.2.2.2.2.length=x117.2.2.2.2.length)∧(∀ i,i < x117.2.2.2.2.length→(mks y88.2.2.2.2) i=(mks x117.2.2.2.2) i)∧(∀ i,i < x117.2.2.2.2.length→DEqs ((mvs aF y88.2.2.2.2) i) ((mvs aF x117.2.2.2.2) i))∧(y88.1.length=x117.1.length)∧I86 x117∧μ87 x117 < μ87 y88)))))) (Let (wI (y88.2.2.2.1+(1:Int))) (fun v124:Int=>∃ x125:(List (List (Int)))×(List (Int))×Int×Int×(List (ByteArray×aH)),SlQ y88.1.length x125.1.length (gl aL y88.1) (gl aL x125.1) (SlQ y88.2.1.length x125.2.1.length (gl aC y88.2.1) (gl aC x125.2.1) ((y88.2.2.1=x125.2.2.1)∧(v124=x125.2.2.2.1)∧SlS aD a ((y88.2.2.2.2.length=x125.2.2.2.2.length)∧(∀ i,i < x125.2.2.2.2.length→(mks y88.2.2.2.2) i=(mks x125.2.2.2.2) i)∧(∀ i,i < x125.2.2.2.2.length→DEqs ((mvs aF y88.2.2.2.2) i) ((mvs aF x125.2.2.2.2) i))∧(y88.1.length=x125.1.length)∧I86 x125∧μ87 x125 < μ87 y88)))))) False)) (Br ((((at_ a (at_ y88.2.1 y88.2.2.2.1)).1).2.2.2.2.2.2.1).toList==ByteArray.empty.toList) ((y88.1.length=y88.1.length∧iD ((y88.1.length+1) * 24))∧(Let (wI (y88.2.2.2.1+(1:Int))) (fun v137:Int=>∃ x138:(List (List (Int)))×(List (Int))×Int×Int×(List (ByteArray×aH)),SlQ (y88.1.length+1) x138.1.length (eG (gl aL y88.1) y88.1.length (fun _=>[.slice .ro 1 1 (fun _=>[.int .i64 (at_ y88.2.1 y88.2.2.2.1)])])) (gl aL x138.1) (SlQ y88.2.1.length x138.2.1.length (gl aC y88.2.1) (gl aC x138.2.1) ((y88.2.2.1=x138.2.2.1)∧(v137=x138.2.2.2.1)∧SlS aD a ((y88.2.2.2.2.length=x138.2.2.2.2.length)∧(∀ i,i < x138.2.2.2.2.length→(mks y88.2.2.2.2) i=(mks x138.2.2.2.2) i)∧(∀ i,i < x138.2.2.2.2.length→DEqs ((mvs aF y88.2.2.2.2) i) ((mvs aF x138.2.2.2.2) i))∧((y88.1.length+1)=x138.1.length)∧I86 x138∧μ87 x138 < μ87 y88)))))) (False))) False) False) ((y88.1.length=y88.1.length)∧SlQ y88.1.length ((bK a).length) (gl aL y88.1) (gl aL (bK a)) (True)))))))))
def f93.vc (a:List (aB)):Prop:=(∃ (I2:(Int×(List (Int))×(List (ByteArray×aH)))→Prop) (μ3:(Int×(List (Int))×(List (ByteArray×aH)))→Nat),I2 ((0:Int),[],[])∧∀ y4:Int×(List (Int))×(List (ByteArray×aH)),I2 y4→((y4.1 < (a.length:Int)→((0:Int)≤y4.1∧y4.1 < (a.length:Int)∧((iT y4.2.2 (((at_ a y4.1).1).2.2.2.2.2.2.1)=true→(-9223372036854775808≤(((mat y4.2.2 (((at_ a y4.1).1).2.2.2.2.2.2.1)).1)+(1:Int))∧(((mat y4.2.2 (((at_ a y4.1).1).2.2.2.2.2.2.1)).1)+(1:Int))≤9223372036854775807∧(((dC (at_ a y4.1))=true→(y4.2.1.length+1≤1073741824∧(-9223372036854775808≤(y4.1+(1:Int))∧(y4.1+(1:Int))≤9223372036854775807∧(I2 ((y4.1+(1:Int)),y4.2.1++([y4.1]),dN y4.2.2 (((at_ a y4.1).1).2.2.2.2.2.2.1) ((((mat y4.2.2 (((at_ a y4.1).1).2.2.2.2.2.2.1)).1)+(1:Int)),(mat y4.2.2 (((at_ a y4.1).1).2.2.2.2.2.2.1)).2))∧μ3 ((y4.1+(1:Int)),y4.2.1++([y4.1]),dN y4.2.2 (((at_ a y4.1).1).2.2.2.2.2.2.1) ((((mat y4.2.2 (((at_ a y4.1).1).2.2.2.2.2.2.1)).1)+(1:Int)),(mat y4.2.2 (((at_ a y4.1).1).2.2.2.2.2.2.1)).2)) < μ3 y4))))∧(¬((dC (at_ a y4.1))=true)→(-9223372036854775808≤(y4.1+(1:Int))∧(y4.1+(1:Int))≤9223372036854775807∧(I2 ((y4.1+(1:Int)),y4.2.1,dN y4.2.2 (((at_ a y4.1).1).2.2.2.2.2.2.1) ((((mat y4.2.2 (((at_ a y4.1).1).2.2.2.2.2.2.1)).1)+(1:Int)),(mat y4.2.2 (((at_ a y4.1).1).2.2.2.2.2.2.1)).2))∧μ3 ((y4.1+(1:Int)),y4.2.1,dN y4.2.2 (((at_ a y4.1).1).2.2.2.2.2.2.1) ((((mat y4.2.2 (((at_ a y4.1).1).2.2.2.2.2.2.1)).1)+(1:Int)),(mat y4.2.2 (((at_ a y4.1).1).2.2.2.2.2.2.1)).2)) < μ3 y4))))))∧(¬(iT y4.2.2 (((at_ a y4.1).1).2.2.2.2.2.2.1)=true)→(((dC (at_ a y4.1))=true→(y4.2.1.length+1≤1073741824∧(-9223372036854775808≤(y4.1+(1:Int))∧(y4.1+(1:Int))≤9223372036854775807∧(I2 ((y4.1+(1:Int)),y4.2.1++([y4.1]),dN y4.2.2 (((at_ a y4.1).1).2.2.2.2.2.2.1) ((1:Int),[]))∧μ3 ((y4.1+(1:Int)),y4.2.1++([y4.1]),dN y4.2.2 (((at_ a y4.1).1).2.2.2.2.2.2.1) ((1:Int),[])) < μ3 y4))))∧(¬((dC (at_ a y4.1))=true)→(-9223372036854775808≤(y4.1+(1:Int))∧(y4.1+(1:Int))≤9223372036854775807∧(I2 ((y4.1+(1:Int)),y4.2.1,dN y4.2.2 (((at_ a y4.1).1).2.2.2.2.2.2.1) ((1:Int),[]))∧μ3 ((y4.1+(1:Int)),y4.2.1,dN y4.2.2 (((at_ a y4.1).1).2.2.2.2.2.2.1) ((1:Int),[])) < μ3 y4))))))))∧(¬(y4.1 < (a.length:Int))→(nB (y4.2.1,a)∧((List.length (fA (y4.2.1,a)))=y4.2.1.length∧(∃ (I56:((List (Int))×(List (Int))×Int×Int×(List (ByteArray×aH)))→Prop) (μ57:((List (Int))×(List (Int))×Int×Int×(List (ByteArray×aH)))→Nat),I56 ((fA (y4.2.1,a)),(fA (y4.2.1,a)),(List.length (fA (y4.2.1,a)):Int),(0:Int),y4.2.2)∧∀ y58:(List (Int))×(List (Int))×Int×Int×(List (ByteArray×aH)),I56 y58→((y58.2.2.2.1 < y58.2.2.1→((0:Int)≤y58.2.2.2.1∧y58.2.2.2.1 < (y58.2.1.length:Int)∧((0:Int)≤(at_ y58.2.1 y58.2.2.2.1)∧(at_ y58.2.1 y58.2.2.2.1) < (a.length:Int)∧((iT y58.2.2.2.2 (((at_ a (at_ y58.2.1 y58.2.2.2.1)).1).2.2.2.2.2.2.1)=true→((((mat y58.2.2.2.2 (((at_ a (at_ y58.2.1 y58.2.2.2.1)).1).2.2.2.2.2.2.1)).2).length)+1≤1073741824∧((0:Int)≤(at_ y58.2.1 y58.2.2.2.1)∧(at_ y58.2.1 y58.2.2.2.1) < (a.length:Int)∧(-9223372036854775808≤(y58.2.2.2.1+(1:Int))∧(y58.2.2.2.1+(1:Int))≤9223372036854775807∧(I56 (y58.1,y58.2.1,y58.2.2.1,(y58.2.2.2.1+(1:Int)),dN y58.2.2.2.2 (((at_ a (at_ y58.2.1 y58.2.2.2.1)).1).2.2.2.2.2.2.1) ((mat y58.2.2.2.2 (((at_ a (at_ y58.2.1 y58.2.2.2.1)).1).2.2.2.2.2.2.1)).1,((mat y58.2.2.2.2 (((at_ a (at_ y58.2.1 y58.2.2.2.1)).1).2.2.2.2.2.2.1)).2)++([at_ y58.2.1 y58.2.2.2.1])))∧μ57 (y58.1,y58.2.1,y58.2.2.1,(y58.2.2.2.1+(1:Int)),dN y58.2.2.2.2 (((at_ a (at_ y58.2.1 y58.2.2.2.1)).1).2.2.2.2.2.2.1) ((mat y58.2.2.2.2 (((at_ a (at_ y58.2.1 y58.2.2.2.1)).1).2.2.2.2.2.2.1)).1,((mat y58.2.2.2.2 (((at_ a (at_ y58.2.1 y58.2.2.2.1)).1).2.2.2.2.2.2.1)).2)++([at_ y58.2.1 y58.2.2.2.1]))) < μ57 y58)))))∧(¬(iT y58.2.2.2.2 (((at_ a (at_ y58.2.1 y58.2.2.2.1)).1).2.2.2.2.2.2.1)=true)→(0+1≤1073741824∧((0:Int)≤(at_ y58.2.1 y58.2.2.2.1)∧(at_ y58.2.1 y58.2.2.2.1) < (a.length:Int)∧(-9223372036854775808≤(y58.2.2.2.1+(1:Int))∧(y58.2.2.2.1+(1:Int))≤9223372036854775807∧(I56 (y58.1,y58.2.1,y58.2.2.1,(y58.2.2.2.1+(1:Int)),dN y58.2.2.2.2 (((at_ a (at_ y58.2.1 y58.2.2.2.1)).1).2.2.2.2.2.2.1) ((0:Int),([])++([at_ y58.2.1 y58.2.2.2.1])))∧μ57 (y58.1,y58.2.1,y58.2.2.1,(y58.2.2.2.1+(1:Int)),dN y58.2.2.2.2 (((at_ a (at_ y58.2.1 y58.2.2.2.1)).1).2.2.2.2.2.2.1) ((0:Int),([])++([at_ y58.2.1 y58.2.2.2.1]))) < μ57 y58)))))))))∧(¬(y58.2.2.2.1 < y58.2.2.1)→(∃ (I86:((List (List (Int)))×(List (Int))×Int×Int×(List (ByteArray×aH)))→Prop) (μ87:((List (List (Int)))×(List (Int))×Int×Int×(List (ByteArray×aH)))→Nat),I86 ([],y58.1,(y58.1.length:Int),(0:Int),y58.2.2.2.2)∧∀ y88:(List (List (Int)))×(List (Int))×Int×Int×(List (ByteArray×aH)),I86 y88→((y88.2.2.2.1 < y88.2.2.1→((0:Int)≤y88.2.2.2.1∧y88.2.2.2.1 < (y88.2.1.length:Int)∧((0:Int)≤(at_ y88.2.1 y88.2.2.2.1)∧(at_ y88.2.1 y88.2.2.2.1) < (a.length:Int)∧((iT y88.2.2.2.2 (((at_ a (at_ y88.2.1 y88.2.2.2.1)).1).2.2.2.2.2.2.1)=true→(((((at_ a (at_ y88.2.1 y88.2.2.2.1)).1).2.2.2.2.2.2.1)=ByteArray.empty→(y88.1.length+1≤1073741824∧(-9223372036854775808≤(y88.2.2.2.1+(1:Int))∧(y88.2.2.2.1+(1:Int))≤9223372036854775807∧(I86 (y88.1++([[at_ y88.2.1 y88.2.2.2.1]]),y88.2.1,y88.2.2.1,(y88.2.2.2.1+(1:Int)),y88.2.2.2.2)∧μ87 (y88.1++([[at_ y88.2.1 y88.2.2.2.1]]),y88.2.1,y88.2.2.1,(y88.2.2.2.1+(1:Int)),y88.2.2.2.2) < μ87 y88))))∧(¬((((at_ a (at_ y88.2.1 y88.2.2.2.1)).1).2.2.2.2.2.2.1)=ByteArray.empty)→((0:Int) < (((mat y88.2.2.2.2 (((at_ a (at_ y88.2.1 y88.2.2.2.1)).1).2.2.2.2.2.2.1)).2).length:Int)∧(((at_ y88.2.1 y88.2.2.2.1)=(at_ ((mat y88.2.2.2.2 (((at_ a (at_ y88.2.1 y88.2.2.2.1)).1).2.2.2.2.2.2.1)).2) (0:Int))→(((((at_ a (at_ y88.2.1 y88.2.2.2.1)).1).2.2.2.2.2.2.2)≤((mat y88.2.2.2.2 (((at_ a (at_ y88.2.1 y88.2.2.2.1)).1).2.2.2.2.2.2.1)).1)→(L20 ((mat y88.2.2.2.2 (((at_ a (at_ y88.2.1 y88.2.2.2.1)).1).2.2.2.2.2.2.1)).2)∧(y88.1.length+1≤1073741824∧(-9223372036854775808≤(y88.2.2.2.1+(1:Int))∧(y88.2.2.2.1+(1:Int))≤9223372036854775807∧(I86 (y88.1++([(dZ ((mat y88.2.2.2.2 (((at_ a (at_ y88.2.1 y88.2.2.2.1)).1).2.2.2.2.2.2.1)).2))]),y88.2.1,y88.2.2.1,(y88.2.2.2.1+(1:Int)),y88.2.2.2.2)∧μ87 (y88.1++([(dZ ((mat y88.2.2.2.2 (((at_ a (at_ y88.2.1 y88.2.2.2.1)).1).2.2.2.2.2.2.1)).2))]),y88.2.1,y88.2.2.1,(y88.2.2.2.1+(1:Int)),y88.2.2.2.2) < μ87 y88)))))∧(¬((((at_ a (at_ y88.2.1 y88.2.2.2.1)).1).2.2.2.2.2.2.2)≤((mat y88.2.2.2.2 (((at_ a (at_ y88.2.1 y88.2.2.2.1)).1).2.2.2.2.2.2.1)).1))→(-9223372036854775808≤(y88.2.2.2.1+(1:Int))∧(y88.2.2.2.1+(1:Int))≤9223372036854775807∧(I86 (y88.1,y88.2.1,y88.2.2.1,(y88.2.2.2.1+(1:Int)),y88.2.2.2.2)∧μ87 (y88.1,y88.2.1,y88.2.2.1,(y88.2.2.2.1+(1:Int)),y88.2.2.2.2) < μ87 y88)))))∧(¬((at_ y88.2.1 y88.2.2.2.1)=(at_ ((mat y88.2.2.2.2 (((at_ a (at_ y88.2.1 y88.2.2.2.1)).1).2.2.2.2.2.2.1)).2) (0:Int)))→(-9223372036854775808≤(y88.2.2.2.1+(1:Int))∧(y88.2.2.2.1+(1:Int))≤9223372036854775807∧(I86 (y88.1,y88.2.1,y88.2.2.1,(y88.2.2.2.1+(1:Int)),y88.2.2.2.2)∧μ87 (y88.1,y88.2.1,y88.2.2.1,(y88.2.2.2.1+(1:Int)),y88.2.2.2.2) < μ87 y88))))))))∧(¬(iT y88.2.2.2.2 (((at_ a (at_ y88.2.1 y88.2.2.2.1)).1).2.2.2.2.2.2.1)=true)→(((((at_ a (at_ y88.2.1 y88.2.2.2.1)).1).2.2.2.2.2.2.1)=ByteArray.empty→(y88.1.length+1≤1073741824∧(-9223372036854775808≤(y88.2.2.2.1+(1:Int))∧(y88.2.2.2.1+(1:Int))≤9223372036854775807∧(I86 (y88.1++([[at_ y88.2.1 y88.2.2.2.1]]),y88.2.1,y88.2.2.1,(y88.2.2.2.1+(1:Int)),y88.2.2.2.2)∧μ87 (y88.1++([[at_ y88.2.1 y88.2.2.2.1]]),y88.2.1,y88.2.2.1,(y88.2.2.2.1+(1:Int)),y88.2.2.2.2) < μ87 y88))))∧(¬((((at_ a (at_ y88.2.1 y88.2.2.2.1)).1).2.2.2.2.2.2.1)=ByteArray.empty)→False)))))))∧(¬(y88.2.2.2.1 < y88.2.2.1)→(y88.1=bK a))))))))))))
theorem f93.of (a:List (aB)) (h:f93.vc a):f93.tree a:=Exists.elim h (fun I2 h163_=>Exists.elim h163_ (fun μ3 h163=>⟨I2,μ3,⟨((0:Int),[],[]),⟨(bP dB (Rds.nil (enc:=aC))),SlS.mk  (⟨rfl,⟨rfl,SlS.mk  (slQ (Rds.nil (enc:=aC)) (mpK Mds.nil (h163.1)))⟩⟩)⟩⟩,fun y4 h165=>br (h163.2 y4 h165) Cnd.dec (fun h5 k161=>chk k161.2.2 Cnd.ix ⟨k161.1,k161.2.1⟩ (fun h7 k52=>br k52 Cnd.b (fun h8 k50=>wrapK.i64 k50 (fun h29 h30 k31=>⟨⟨rfl,⟨rfl,trivial⟩⟩,(f33.ei ⟨trivial,br k31 Cnd.b (fun h12 k26=>⟨⟨rfl,gH k26.1 (by decide)⟩,wrapK.i64 k26.2 (fun h17 h18 k19=>⟨((y4.1+(1:Int)),y4.2.1++([y4.1]),dN y4.2.2 (((at_ a y4.1).1).2.2.2.2.2.2.1) ((((mat y4.2.2 (((at_ a y4.1).1).2.2.2.2.2.2.1)).1)+(1:Int)),(mat y4.2.2 (((at_ a y4.1).1).2.2.2.2.2.2.1)).2)),⟨(bP (eG (gl aC y4.2.1) y4.2.1.length (fun _=>[.int .i64 y4.1])) (Rds.app (enc:=aC) (rS aC) (Rds.one (enc:=aC) (DEqs.refl _)))),SlS.mk  (⟨rfl,⟨rfl,SlS.mk  (slQ (Rds.app (enc:=aC) (rS aC) (Rds.one (enc:=aC) (DEqs.refl _))) (mpK (Mds.set (enc:=aF) (Mds.self (enc:=aF)) (DEqs.refl _)) (k19)))⟩⟩)⟩⟩)⟩) (fun h13 k27=>wrapK.i64 k27 (fun h23 h24 k25=>⟨((y4.1+(1:Int)),y4.2.1,dN y4.2.2 (((at_ a y4.1).1).2.2.2.2.2.2.1) ((((mat y4.2.2 (((at_ a y4.1).1).2.2.2.2.2.2.1)).1)+(1:Int)),(mat y4.2.2 (((at_ a y4.1).1).2.2.2.2.2.2.1)).2)),⟨(bP (gl aC y4.2.1) (rS aC)),SlS.mk  (⟨rfl,⟨rfl,SlS.mk  (slQ (rS aC) (mpK (Mds.set (enc:=aF) (Mds.self (enc:=aF)) (DEqs.refl _)) (k25)))⟩⟩)⟩⟩))⟩)⟩)) (fun h9 k51=>⟨⟨rfl,trivial⟩,(f33.ei ⟨trivial,br k51 Cnd.b (fun h33 k47=>⟨⟨rfl,gH k47.1 (by decide)⟩,wrapK.i64 k47.2 (fun h38 h39 k40=>⟨((y4.1+(1:Int)),y4.2.1++([y4.1]),dN y4.2.2 (((at_ a y4.1).1).2.2.2.2.2.2.1) ((1:Int),[])),⟨(bP (eG (gl aC y4.2.1) y4.2.1.length (fun _=>[.int .i64 y4.1])) (Rds.app (enc:=aC) (rS aC) (Rds.one (enc:=aC) (DEqs.refl _)))),SlS.mk  (⟨rfl,⟨rfl,SlS.mk  (slQ (Rds.app (enc:=aC) (rS aC) (Rds.one (enc:=aC) (DEqs.refl _))) (mpK (Mds.set (enc:=aF) (Mds.self (enc:=aF)) (DEqs.cons (DEq.refl _) (DEqs.cons ((Rds.nil (enc:=aC))).deq DEqs.nil))) (k40)))⟩⟩)⟩⟩)⟩) (fun h34 k48=>wrapK.i64 k48 (fun h44 h45 k46=>⟨((y4.1+(1:Int)),y4.2.1,dN y4.2.2 (((at_ a y4.1).1).2.2.2.2.2.2.1) ((1:Int),[])),⟨(bP (gl aC y4.2.1) (rS aC)),SlS.mk  (⟨rfl,⟨rfl,SlS.mk  (slQ (rS aC) (mpK (Mds.set (enc:=aF) (Mds.self (enc:=aF)) (DEqs.cons (DEq.refl _) (DEqs.cons ((Rds.nil (enc:=aC))).deq DEqs.nil))) (k46)))⟩⟩)⟩⟩))⟩)⟩))) (fun h6 k162=>⟨rfl,⟨(y4.2.1,a),⟨(bP (gl aC y4.2.1) (rS aC)),⟨(DEqs.refl _),slQ (rS aC) (⟨k162.1,rG k162.2 (fun (h54:(List.length (fA (y4.2.1,a)))=y4.2.1.length) hk=>⟨h54,Exists.elim hk (fun I56 h157_=>Exists.elim h157_ (fun μ57 h157=>⟨I56,μ57,⟨((fA (y4.2.1,a)),(fA (y4.2.1,a)),(List.length (fA (y4.2.1,a)):Int),(0:Int),y4.2.2),slQ (rS aC) (slQ (rS aC) (⟨rfl,⟨rfl,SlS.mk  (mpK (Mds.self (enc:=aF)) (h157.1))⟩⟩))⟩,fun y58 h159=>br (h157.2 y58 h159) Cnd.dec (fun h59 k155=>chk k155.2.2 Cnd.ix ⟨k155.1,k155.2.1⟩ (fun h61 k84=>chk k84.2.2 Cnd.ix ⟨k84.1,k84.2.1⟩ (fun h62 k83=>br k83 Cnd.b (fun h63 k81=>⟨⟨rfl,(gH k81.1 (by decide))⟩,chk k81.2.2.2 Cnd.ix ⟨k81.2.1,k81.2.2.1⟩ (fun h65 k72=>⟨⟨rfl,⟨rfl,trivial⟩⟩,wrapK.i64 k72 (fun h69 h70 k71=>⟨(y58.1,y58.2.1,y58.2.2.1,(y58.2.2.2.1+(1:Int)),dN y58.2.2.2.2 (((at_ a (at_ y58.2.1 y58.2.2.2.1)).1).2.2.2.2.2.2.1) ((mat y58.2.2.2.2 (((at_ a (at_ y58.2.1 y58.2.2.2.1)).1).2.2.2.2.2.2.1)).1,((mat y58.2.2.2.2 (((at_ a (at_ y58.2.1 y58.2.2.2.1)).1).2.2.2.2.2.2.1)).2)++([at_ y58.2.1 y58.2.2.2.1]))),slQ (rS aC) (slQ (rS aC) (⟨rfl,⟨rfl,SlS.mk  (mpK (Mds.set (enc:=aF) (Mds.self (enc:=aF)) (DEqs.cons (DEq.refl _) (DEqs.cons ((Rds.app (enc:=aC) (rS aC) (Rds.one (enc:=aC) (DEqs.refl _)))).deq DEqs.nil))) (k71))⟩⟩))⟩)⟩)⟩) (fun h64 k82=>⟨(gH k82.1 (by decide)),chk k82.2.2.2 Cnd.ix ⟨k82.2.1,k82.2.2.1⟩ (fun h73 k80=>⟨⟨rfl,⟨rfl,trivial⟩⟩,wrapK.i64 k80 (fun h77 h78 k79=>⟨(y58.1,y58.2.1,y58.2.2.1,(y58.2.2.2.1+(1:Int)),dN y58.2.2.2.2 (((at_ a (at_ y58.2.1 y58.2.2.2.1)).1).2.2.2.2.2.2.1) ((0:Int),([])++([at_ y58.2.1 y58.2.2.2.1]))),slQ (rS aC) (slQ (rS aC) (⟨rfl,⟨rfl,SlS.mk  (mpK (Mds.set (enc:=aF) (Mds.self (enc:=aF)) (DEqs.cons (DEq.refl _) (DEqs.cons ((Rds.app (enc:=aC) (Rds.nil (enc:=aC)) (Rds.one (enc:=aC) (DEqs.refl _)))).deq DEqs.nil))) (k79))⟩⟩))⟩)⟩)⟩)))) (fun h60 k156=>Exists.elim k156 (fun I86 h152_=>Exists.elim h152_ (fun μ87 h152=>⟨I86,μ87,⟨([],y58.1,(y58.1.length:Int),(0:Int),y58.2.2.2.2),slQ (Rds.nil (enc:=aL)) (slQ (rS aC) (⟨rfl,⟨rfl,SlS.mk  (mpK (Mds.self (enc:=aF)) (⟨(bP dB (Rds.nil (enc:=aL))),h152.1⟩))⟩⟩))⟩,fun y88 h154=>br (h152.2 y88 h154) Cnd.dec (fun h89 k150=>chk k150.2.2 Cnd.ix ⟨k150.1,k150.2.1⟩ (fun h91 k148=>chk k148.2.2 Cnd.ix ⟨k148.1,k148.2.1⟩ (fun h92 k147=>br k147 Cnd.b (fun h93 k145=>br k145 Cnd.seq (fun h95 k133=>⟨⟨rfl,(gH k133.1 (by decide))⟩,wrapK.i64 k133.2 (fun h100 h101 k102=>⟨(y88.1++([[at_ y88.2.1 y88.2.2.2.1]]),y88.2.1,y88.2.2.1,(y88.2.2.2.1+(1:Int)),y88.2.2.2.2),slQ (Rds.app (enc:=aL) (rS aL) (Rds.one (enc:=aL) (DEqs.cons ((Rds.one (enc:=aC) (DEqs.refl _))).deq DEqs.nil))) (slQ (rS aC) (⟨rfl,⟨rfl,SlS.mk  (mpK (Mds.self (enc:=aF)) (⟨(bP (eG (gl aL y88.1) y88.1.length (fun _=>[.slice .ro 1 1 (fun _=>[.int .i64 (at_ y88.2.1 y88.2.2.2.1)])])) (Rds.app (enc:=aL) (rS aL) (Rds.one (enc:=aL) (DEqs.cons ((Rds.one (enc:=aC) (DEqs.refl _))).deq DEqs.nil)))),k102⟩))⟩⟩))⟩)⟩) (fun h96 k134=>chk k134.2 Cnd.ix ⟨(by decide),k134.1⟩ (fun h103 k132=>br k132 Cnd.eq (fun h104 k130=>br k130 Cnd.dec (fun h106 k122=>(f117.ei ⟨k122.1,⟨⟨rfl,(gH k122.2.1 (by decide))⟩,wrapK.i64 k122.2.2 (fun h112 h113 k114=>⟨(y88.1++([(dZ ((mat y88.2.2.2.2 (((at_ a (at_ y88.2.1 y88.2.2.2.1)).1).2.2.2.2.2.2.1)).2))]),y88.2.1,y88.2.2.1,(y88.2.2.2.1+(1:Int)),y88.2.2.2.2),slQ (Rds.app (enc:=aL) (rS aL) (Rds.one (enc:=aL) (DEqs.refl _))) (slQ (rS aC) (⟨rfl,⟨rfl,SlS.mk  (mpK (Mds.self (enc:=aF)) (⟨(bP (eG (gl aL y88.1) y88.1.length (fun _=>[.slice .ro 1 ((dZ ((mat y88.2.2.2.2 (((at_ a (at_ y88.2.1 y88.2.2.2.1)).1).2.2.2.2.2.2.1)).2)).length) (gl aC (dZ ((mat y88.2.2.2.2 (((at_ a (at_ y88.2.1 y88.2.2.2.1)).1).2.2.2.2.2.2.1)).2)))])) (Rds.app (enc:=aL) (rS aL) (Rds.one (enc:=aL) (DEqs.refl _)))),k114⟩))⟩⟩))⟩)⟩⟩)) (fun h107 k123=>wrapK.i64 k123 (fun h119 h120 k121=>⟨(y88.1,y88.2.1,y88.2.2.1,(y88.2.2.2.1+(1:Int)),y88.2.2.2.2),slQ (rS aL) (slQ (rS aC) (⟨rfl,⟨rfl,SlS.mk  (mpK (Mds.self (enc:=aF)) (⟨(bP (gl aL y88.1) (rS aL)),k121⟩))⟩⟩))⟩))) (fun h105 k131=>wrapK.i64 k131 (fun h127 h128 k129=>⟨(y88.1,y88.2.1,y88.2.2.1,(y88.2.2.2.1+(1:Int)),y88.2.2.2.2),slQ (rS aL) (slQ (rS aC) (⟨rfl,⟨rfl,SlS.mk  (mpK (Mds.self (enc:=aF)) (⟨(bP (gl aL y88.1) (rS aL)),k129⟩))⟩⟩))⟩))))) (fun h94 k146=>br k146 Cnd.seq (fun h135 k143=>⟨⟨rfl,(gH k143.1 (by decide))⟩,wrapK.i64 k143.2 (fun h140 h141 k142=>⟨(y88.1++([[at_ y88.2.1 y88.2.2.2.1]]),y88.2.1,y88.2.2.1,(y88.2.2.2.1+(1:Int)),y88.2.2.2.2),slQ (Rds.app (enc:=aL) (rS aL) (Rds.one (enc:=aL) (DEqs.cons ((Rds.one (enc:=aC) (DEqs.refl _))).deq DEqs.nil))) (slQ (rS aC) (⟨rfl,⟨rfl,SlS.mk  (mpK (Mds.self (enc:=aF)) (⟨(bP (eG (gl aL y88.1) y88.1.length (fun _=>[.slice .ro 1 1 (fun _=>[.int .i64 (at_ y88.2.1 y88.2.2.2.1)])])) (Rds.app (enc:=aL) (rS aL) (Rds.one (enc:=aL) (DEqs.cons ((Rds.one (enc:=aC) (DEqs.refl _))).deq DEqs.nil)))),k142⟩))⟩⟩))⟩)⟩) (fun h136 k144=>k144))))) (fun h90 k151=>⟨rfl,slQ (Rds.to (rS aL) k151) (trivial)⟩)⟩)))⟩))⟩)⟩)⟩⟩⟩⟩)⟩))
theorem f93.eq (a:List (aB)):(f93.af a).gives f93.env (f93.args a) (f93.blks a) (f93.res a) (f93.blks' a)=f93.tree a:=by kernel_rfl
set_option linter.unusedVariables false
set_option linter.unusedVariables false
def f117.kills (a:List (Int)):List iX:=[]
def f117.cuts (a:List (Int)):List (Nat×Σ β:Type,β→Tm):=[]
def f117.af (a:List (Int)):AF:=AF.mk (.seq (.region [oT 2 0 (.nilSl 1) []])
 (.seq (.seq (.region [oT 3 1 .move [0],
 oT 4 2 (.isNil false false) [3]])
 (.cond (.t 4) (.seq (.region [oT 2 3 (.nilSl 1) []])
 (.ret)) (.skip)))
 (.seq (.region [oT 5 4 (.buildSlice 1 0 [.int .i64 (0)] []) [],
 oT 6 5 .move [0],
 oT 7 6 (.append 1 8) [5,6],
 oT 2 7 .move [7]])
 (.ret))))
 [.tmp 2] 0 7
def f117.env:Env:=[]
def f117.tree (a:List (Int)):Prop:=Br (Nat.beq a.length 0) (((0=0)∧SlQ 0 ((dZ a).length) dB (gl aC (dZ a)) (True))∧((iD ((0+a.length) * 8))∧(((0+a.length)=(0+a.length))∧SlQ (0+a.length) ((dZ a).length) (eG (fun j=>List.take 1 (List.drop (j * 1) [])) 0 (gl aC a)) (gl aC (dZ a)) (True)))) ((iD ((0+a.length) * 8))∧(((0+a.length)=(0+a.length))∧SlQ (0+a.length) ((dZ a).length) (eG (fun j=>List.take 1 (List.drop (j * 1) [])) 0 (gl aC a)) (gl aC (dZ a)) (True)))
def f117.vc (a:List (Int)):Prop:=((a.length=0→(([]=dZ a)∧(0+a.length≤1073741824∧(([])++a=dZ a))))∧(¬(a.length=0)→(0+a.length≤1073741824∧(([])++a=dZ a))))
theorem f117.of (a:List (Int)) (h:f117.vc a):f117.tree a:=br h Cnd.beq (fun h1 k6=>⟨⟨rfl,slQ (Rds.to (Rds.nil (enc:=aC)) k6.1) (trivial)⟩,⟨(gH k6.2.1 (by decide)),⟨rfl,slQ (Rds.to (Rds.app (enc:=aC) (Rds.nil (enc:=aC)) (rS aC)) k6.2.2) (trivial)⟩⟩⟩) (fun h2 k7=>⟨(gH k7.1 (by decide)),⟨rfl,slQ (Rds.to (Rds.app (enc:=aC) (Rds.nil (enc:=aC)) (rS aC)) k7.2) (trivial)⟩⟩)
theorem f117.eq (a:List (Int)):(f117.af a).gives f117.env (f117.args a) (f117.blks a) (f117.res a) (f117.blks' a)=f117.tree a:=by kernel_rfl
set_option linter.unusedVariables false
theorem f117.ok (a:List Int) (h:L20 a):f117.vc a:=by
 have h:a.length≤1048576:=h
 refine ⟨fun c=>⟨?_,by omega,?_⟩,fun c=>⟨by omega,?_⟩⟩
 ·exact (List.length_eq_zero_iff.1 c).symm
 ·exact List.nil_append _
 ·exact List.nil_append _
theorem qE {l:List aU}:i4 l=true↔l.length≤100∧∀ i,i < l.length→(aN (l.getD i default)).size≤1000:=by
 unfold i4
 simp only [Bool.and_eq_true,decide_eq_true_eq,List.all_eq_true,List.mem_range]
theorem qN {l:List aU} (h:¬i4 l=true):false=i4 l:=(Bool.eq_false_iff.2 h).symm
theorem f92.ok (a:List aU) (h:L20 a):f92.vc a:=by
 have h:a.length≤1048576:=h
 refine ⟨fun c=>qN fun hh=>by have:=(qE.1 hh).1; omega,fun c=>?_⟩
 refine ⟨fun y=>0≤y∧y≤(a.length:Int)∧(∀ i,i < y.toNat→(aN (a.getD i default)).size≤1000),fun y=>a.length - y.toNat,⟨by omega,by omega,fun i hi=>by simp at hi⟩,fun y hy=>?_⟩
 obtain ⟨g0,g1,g2⟩:=hy
 refine ⟨fun hlt=>⟨g0,hlt,fun d=>qN fun hh=>?_,fun d=>⟨by omega,by omega,⟨by omega,by omega,fun i hi=>?_⟩,by simp only; omega⟩⟩,fun hge=>?_⟩
 ·have:=(qE.1 hh).2 y.toNat (by omega)
  have d:1000 < ((aN (a.getD y.toNat default)).size:Int):=d
  omega
 ·by_cases he:i=y.toNat
  ·subst he
   have d:¬1000 < ((aN (a.getD y.toNat default)).size:Int):=d
   omega
  ·exact g2 i (by omega)
 ·symm
  rw [qE]
  exact ⟨by omega,fun i hi=>g2 i (by omega)⟩
theorem vK (j:aU):dC j=true↔j.2.2.1=ByteArray.empty:=decide_eq_true_iff
theorem iQ {js:List aU} {S:List Int} {k:Nat} (h:¬aN (at_ js (S.getD k default))=ByteArray.empty):jR js S k =
  if (∀ q,q < k→aN (at_ js (S.getD q default))≠aN (at_ js (S.getD k default)))∧aF8 (at_ js (S.getD k default))≤eR (js,aN (at_ js (S.getD k default))) then
   [S.filter fun p=>decide (aN (at_ js p)=aN (at_ js (S.getD k default)))] else []:=if_neg h
theorem nE {js:List aU} {S:List Int} {k:Nat} (h:aN (at_ js (S.getD k default))=ByteArray.empty):jR js S k=[[S.getD k default]]:=if_pos h
def GMap (a:List aU) (i:Nat) (W:ByteArray→List Int) (m:List (ByteArray×Int×List Int)):Prop :=
 ∀ g,(iT m g=decide (0 < eR (a.take i,g)))∧(iT m g=true→mat m g=(eR (a.take i,g),W g))
theorem GMap.all {a:List aU} {m:List (ByteArray×Int×List Int)} {W:ByteArray→List Int} {i:Nat} (h:GMap a i W m) (hi:a.length≤i) {x:aU} (hx:x∈a):iT m (aN x)=true∧mat m (aN x)=(eR (a,aN x),W (aN x)):=by
 obtain ⟨h1,h2⟩:=h (aN x)
 rw [List.take_of_length_le hi] at h1 h2
 have h3:iT m (aN x)=true:=by
  rw [h1]
  exact decide_eq_true (aDJ hx)
 exact ⟨h3,h2 h3⟩
theorem f93.ok (a:List aU) (h:gA a):f93.vc a:=by
 have h:a.length≤1048576:=h
 refine ⟨fun y=>0≤y.1∧y.1≤(a.length:Int)∧y.2.1=dV a y.1.toNat∧GMap a y.1.toNat (fun _=>[]) y.2.2,fun y=>a.length - y.1.toNat,⟨by simp only; omega,by simp only; omega,rfl,fun g=>⟨?_,fun c=>?_⟩⟩,fun y hy=>?_⟩
 ·rw [x9]
  rfl
 ·rw [x9] at c
  cases c
 obtain ⟨i,P,m⟩:=y
 obtain ⟨g0,g1,g2,g3⟩:=hy
 simp only at g0 g1 g2 g3 ⊢
 have hP:P.length≤i.toNat:=by
  rw [g2]
  exact oO a i.toNat
 have hi:((i.toNat:Nat):Int)=i:=by omega
 refine ⟨fun hlt=>?_,fun hge=>?_⟩
 ·have e:a.take (i+1).toNat=a.take i.toNat++[at_ a i]:=by
   rw [show (i+1).toNat=i.toNat+1 from by omega,j8 (by omega)]
   rfl
  have step:∀ n:Int,n=eR (a.take i.toNat,aN (at_ a i))+1→GMap a (i+1).toNat (fun _=>[]) (dN m (aN (at_ a i)) (n,[])):=fun n hn g=>by
   rw [tH,wG,e,aBX,(g3 g).1]
   have hb:=aA7 (a.take i.toNat) g
   by_cases c:aN (at_ a i)=g
   ·subst c
    rw [if_pos rfl,if_pos rfl,decide_eq_true rfl,Bool.true_or]
    exact ⟨(decide_eq_true (by omega)).symm,fun _=>by rw [hn]⟩
   ·rw [if_neg c,if_neg c,decide_eq_false c,Bool.false_or,Int.add_zero]
    exact ⟨rfl,fun d=>(g3 g).2 (by rw [(g3 g).1]; exact d)⟩
  have hb:=aA7 (a.take i.toNat) (aN (at_ a i))
  rw [List.length_take] at hb
  have pY:dC (at_ a i)=true→P++[i]=dV a (i+1).toNat:=fun c=>by
   rw [show (i+1).toNat=i.toNat+1 from by omega,wX (by rw [hi]; exact c),← g2,hi]
  have pN:¬dC (at_ a i)=true→P=dV a (i+1).toNat:=fun c=>by
   rw [show (i+1).toNat=i.toNat+1 from by omega,xO (by rw [hi]; exact c),← g2]
  refine ⟨g0,hlt,fun c=>?_,fun c=>?_⟩
  ·have hm:mat m (aN (at_ a i))=(eR (a.take i.toNat,aN (at_ a i)),[]):=(g3 _).2 c
   have hm':mat m ((at_ a i).1).2.2.2.2.2.2.1=(eR (a.take i.toNat,aN (at_ a i)),[]):=hm
   rw [hm']
   exact ⟨by omega,by omega,fun c2=>⟨by omega,by omega,by omega,⟨by omega,by omega,pY c2,step _ rfl⟩,by omega⟩,fun c2=>⟨by omega,by omega,⟨by omega,by omega,pN c2,step _ rfl⟩,by omega⟩⟩
  ·have c:¬iT m (aN (at_ a i))=true:=c
   rw [(g3 _).1,decide_eq_true_eq] at c
   have hz:(1:Int)=eR (a.take i.toNat,aN (at_ a i))+1:=by omega
   exact ⟨fun c2=>⟨by omega,by omega,by omega,⟨by omega,by omega,pY c2,step _ hz⟩,by omega⟩,fun c2=>⟨by omega,by omega,⟨by omega,by omega,pN c2,step _ hz⟩,by omega⟩⟩
 ·have hia:i.toNat=a.length:=by omega
  rw [hia] at g2 g3
  have hP2:fA (P,a)=cU a:=by
   rw [g2]
   rfl
  have hlen:=mA a
  have hin:=aAC a
  have hnd:=j9 a
  refine ⟨⟨by simp only; omega,fun x hx=>?_⟩,cJ _,?_⟩
  ·rw [g2,pB] at hx
   exact hx.1
  ·rw [hP2]
   have hfin:bK a=d6 a (cU a) (cU a).length:=rfl
   rw [hfin]
   generalize cU a=S at hlen hin hnd
   have gof:∀ {j:Int},0≤j→j < (S.length:Int)→at_ a (at_ S j)∈a:=fun h0 h1=>jL (hin _ (jL h0 h1)).1 (hin _ (jL h0 h1)).2
   refine ⟨fun y=>y.1=S∧y.2.1=S∧y.2.2.1=(S.length:Int)∧0≤y.2.2.2.1∧y.2.2.2.1≤(S.length:Int)∧GMap a a.length (fun g=>(S.take y.2.2.2.1.toNat).filter fun p=>decide (aN (at_ a p)=g)) y.2.2.2.2,fun y=>S.length - y.2.2.2.1.toNat,⟨rfl,rfl,rfl,by simp only; omega,by simp only; omega,g3⟩,fun y hy=>?_⟩
   obtain ⟨S1,S2,n,j,m2⟩:=y
   obtain ⟨e1,e2,e3,e4,e5,e6⟩:=hy
   simp only at e1 e2 e3 e4 e5 e6 ⊢
   subst e1; subst e2; subst e3
   refine ⟨fun hj=>?_,fun hj=>?_⟩
   ·have hx:=hin _ (jL e4 hj)
    obtain ⟨q1,q2⟩:=e6.all (Nat.le_refl _) (gof e4 hj)
    have q2':mat m2 ((at_ a (at_ S2 j)).1).2.2.2.2.2.2.1=(eR (a,aN (at_ a (at_ S2 j))),(S2.take j.toNat).filter fun p=>decide (aN (at_ a p)=aN (at_ a (at_ S2 j)))):=q2
    refine ⟨e4,hj,hx.1,hx.2,fun c=>?_,fun c=>absurd q1 c⟩
    rw [q2']
    have hl:=List.length_filter_le (fun p=>decide (aN (at_ a p)=aN (at_ a (at_ S2 j)))) (S2.take j.toNat)
    rw [List.length_take] at hl
    refine ⟨by simp only; omega,hx.1,hx.2,by omega,by omega,⟨rfl,rfl,rfl,by omega,by omega,fun g=>?_⟩,by omega⟩
    have tk:S2.take (j+1).toNat=S2.take j.toNat++[at_ S2 j]:=by
     rw [show (j+1).toNat=j.toNat+1 from by omega,j8 (by omega)]
     rfl
    have hs:=tH (aN (at_ a (at_ S2 j))) g (eR (a,aN (at_ a (at_ S2 j))),((S2.take j.toNat).filter fun p=>decide (aN (at_ a p)=aN (at_ a (at_ S2 j))))++[at_ S2 j]) m2
    have ha:=wG (aN (at_ a (at_ S2 j))) g (eR (a,aN (at_ a (at_ S2 j))),((S2.take j.toNat).filter fun p=>decide (aN (at_ a p)=aN (at_ a (at_ S2 j))))++[at_ S2 j]) m2
    show (iT (dN m2 (aN (at_ a (at_ S2 j))) _) g=_)∧(iT (dN m2 (aN (at_ a (at_ S2 j))) _) g=true→mat (dN m2 (aN (at_ a (at_ S2 j))) _) g=_)
    rw [hs,ha,(e6 g).1,tk]
    simp only
    by_cases cg:aN (at_ a (at_ S2 j))=g
    ·subst cg
     rw [if_pos rfl,decide_eq_true rfl,Bool.true_or,List.filter_append,List.filter_cons_of_pos (p:=fun p=>decide (aN (at_ a p)=aN (at_ a (at_ S2 j)))) (decide_eq_true rfl),List.filter_nil]
     rw [(e6 _).1] at q1
     rw [List.take_of_length_le (Nat.le_refl _)] at q1 ⊢
     exact ⟨q1.symm,fun _=>rfl⟩
    ·rw [if_neg cg,decide_eq_false cg,Bool.false_or,List.filter_append,List.filter_cons_of_neg (p:=fun p=>decide (aN (at_ a p)=g)) (by simpa using cg),List.filter_nil,List.append_nil]
     exact ⟨rfl,fun d=>(e6 g).2 (by rw [(e6 g).1]; exact d)⟩
   ·have hjS:S2.take j.toNat=S2:=List.take_of_length_le (by omega)
    rw [hjS] at e6
    refine ⟨fun y=>y.2.1=S2∧y.2.2.1=(S2.length:Int)∧0≤y.2.2.2.1∧y.2.2.2.1≤(S2.length:Int)∧y.2.2.2.2=m2∧y.1=d6 a S2 y.2.2.2.1.toNat,fun y=>S2.length - y.2.2.2.1.toNat,⟨rfl,rfl,by simp only; omega,by simp only; omega,rfl,rfl⟩,fun y hy=>?_⟩
    obtain ⟨out,S3,n3,k,m3⟩:=y
    obtain ⟨r1,r2,r3,r4,r5,r6⟩:=hy
    simp only at r1 r2 r3 r4 r5 r6 ⊢
    subst r1; subst r2; subst r5
    have hout:out.length≤k.toNat:=by
     rw [r6]
     exact qQ _ _ _
    refine ⟨fun hk=>?_,fun hk=>?_⟩
    ·have hx:=hin _ (jL r3 hk)
     obtain ⟨q1,q2⟩:=e6.all (Nat.le_refl _) (gof r3 hk)
     have q2':mat m3 ((at_ a (at_ S3 k)).1).2.2.2.2.2.2.1=(eR (a,aN (at_ a (at_ S3 k))),S3.filter fun p=>decide (aN (at_ a p)=aN (at_ a (at_ S3 k)))):=q2
     have st:d6 a S3 (k+1).toNat=out++jR a S3 k.toNat:=by
      rw [show (k+1).toNat=k.toNat+1 from by omega,kF,← r6]
     refine ⟨r3,hk,hx.1,hx.2,fun c=>⟨fun d=>⟨by omega,by omega,by omega,⟨rfl,rfl,by omega,by omega,rfl,?_⟩,by omega⟩,fun d=>?_⟩,fun c=>absurd q1 c⟩
     ·rw [st,nE d]
      rfl
     ·rw [q2']
      obtain ⟨w1,w2⟩:=qP hnd (j:=k.toNat) (by omega) (q:=fun p=>decide (aN (at_ a p)=aN (at_ a (at_ S3 k)))) (decide_eq_true rfl)
      have hl:=List.length_filter_le (fun p=>decide (aN (at_ a p)=aN (at_ a (at_ S3 k)))) S3
      have hfirst:at_ S3 k=at_ (S3.filter fun p=>decide (aN (at_ a p)=aN (at_ a (at_ S3 k)))) 0↔∀ q,q < k.toNat→aN (at_ a (S3.getD q default))≠aN (at_ a (S3.getD k.toNat default)):=by
       refine w2.trans (forall_congr' fun q=>imp_congr_right fun _=>?_)
       rw [decide_eq_false_iff_not]
       exact Iff.rfl
      refine ⟨by simp only; omega,fun c1=>⟨fun c2=>⟨?_,by omega,by omega,by omega,⟨rfl,rfl,by omega,by omega,rfl,?_⟩,by omega⟩,fun c2=>⟨by omega,by omega,⟨rfl,rfl,by omega,by omega,rfl,?_⟩,by omega⟩⟩,fun c1=>⟨by omega,by omega,⟨rfl,rfl,by omega,by omega,rfl,?_⟩,by omega⟩⟩
      ·show (S3.filter fun p=>decide (aN (at_ a p)=aN (at_ a (at_ S3 k)))).length≤1048576
       omega
      ·rw [st,iQ d,if_pos ⟨hfirst.1 c1,c2⟩]
       rfl
      ·rw [st,iQ d,if_neg fun e=>c2 e.2,List.append_nil]
      ·rw [st,iQ d,if_neg fun e=>c1 (hfirst.2 e.1),List.append_nil]
    ·rw [r6,show k.toNat=S3.length from by omega]
end Go.Abs
