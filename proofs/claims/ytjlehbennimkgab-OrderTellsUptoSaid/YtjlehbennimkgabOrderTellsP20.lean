/- Functions, and what the code asks of them: POrd. -/
import Derived.KernelRfl
import Derived.Test.YtjlehbennimkgabOrderTellsP4
import Derived.Test.YtjlehbennimkgabOrderTellsP5
import Derived.Test.YtjlehbennimkgabOrderTellsP6
import Derived.Test.YtjlehbennimkgabOrderTellsP9
import Derived.Test.YtjlehbennimkgabOrderTellsP10
import Derived.Test.YtjlehbennimkgabOrderTellsP12
import Derived.Test.YtjlehbennimkgabOrderTellsP14
import Derived.Test.YtjlehbennimkgabOrderTellsP15
import Derived.Test.YtjlehbennimkgabOrderTellsP17
import Derived.Test.YtjlehbennimkgabOrderTellsP18
import Derived.Test.YtjlehbennimkgabOrderTellsP19
set_option linter.unusedVariables false
set_option linter.unusedSimpArgs false
/- Layer 14: facts of lists. -/
namespace Go.Abs
open Go

/-! Maps with texts as keys. -/
section
variable {α:Type} [Inhabited α]
theorem yA (k:ByteArray):iN ([]:List (ByteArray×α)) k=false:=decide_eq_false (Nat.lt_irrefl 0)
theorem jW (x:ByteArray×α) (l:List (ByteArray×α)) (k:ByteArray):iN (x::l) k=(decide (x.1=k) || iN l k):=by
 obtain ⟨a,b⟩:=x
 unfold iN
 rw [List.length_cons,lR]
 by_cases h:a=k
 ·rw [if_pos h,decide_eq_true (Nat.succ_pos _),decide_eq_true h]
  rfl
 ·rw [if_neg h,decide_eq_false h,Bool.false_or]
  exact decide_eq_decide.2 (by omega)
theorem mC (x:ByteArray×α) (l:List (ByteArray×α)) (k:ByteArray):mat (x::l) k=if x.1=k then x.2 else mat l k:=by
 obtain ⟨a,b⟩:=x
 unfold mat
 rw [List.length_cons,lR]
 by_cases h:a=k
 ·rw [if_pos h,if_pos h]
  rfl
 ·rw [if_neg h,if_neg h,List.getD_cons_succ]
theorem tF (k q:ByteArray) (v:α):∀ m:List (ByteArray×α),iN (dR m k v) q=(decide (k=q) || iN m q)
 | []=>by
  show iN [(k,v)] q=_
  rw [jW]
 | (a,b)::m=>by
  unfold dR
  by_cases h:a=k
  ·rw [if_pos h,jW,jW,h]
   simp only
   cases decide (k=q) <;> rfl
  ·rw [if_neg h,jW,tF k q v m,jW]
   simp only
   cases decide (k=q) <;> cases decide (a=q) <;> rfl
theorem wB (k q:ByteArray) (v:α):∀ m:List (ByteArray×α),mat (dR m k v) q=if k=q then v else mat m q
 | []=>by
  show mat [(k,v)] q=_
  rw [mC]
 | (a,b)::m=>by
  unfold dR
  by_cases h:a=k
  ·rw [if_pos h,mC,mC,h]
   simp only
   split <;> rfl
  ·rw [if_neg h,mC,wB k q v m,mC]
   simp only
   by_cases c:k=q
   ·rw [if_pos c,if_pos c,if_neg fun e=>h (e.trans c.symm)]
   ·rw [if_neg c,if_neg c]
end

theorem kF {α:Type} [Inhabited α] {l:List α} {i:Nat} (h:i < l.length):l.take (i+1)=l.take i++[l.getD i default]:=by
 rw [eC h]
 exact (List.take_append_getElem h).symm
theorem oB (n:Nat):uD (n+1)=uD n++[(n:Int)]:=by
 unfold uD
 rw [List.range_succ,List.map_append]
 rfl
theorem vZ {n:Nat} {i:Int}:i∈uD n↔0≤i∧i < n:=by
 unfold uD
 rw [List.mem_map]
 constructor
 ·rintro ⟨k,hk,rfl⟩
  rw [List.mem_range] at hk
  exact ⟨Int.natCast_nonneg _,by show (k:Int) < n; omega⟩
 ·intro ⟨h0,h1⟩
  exact ⟨i.toNat,List.mem_range.2 (by omega),by show ((i.toNat:Nat):Int)=i; omega⟩
theorem aB7 (n:Nat):(uD n).length=n:=by
 unfold uD
 rw [List.length_map,List.length_range]
theorem zT (n:Nat):(uD n).Nodup:=by
 induction n with
 | zero=>exact List.nodup_nil
 | succ n ih =>
  rw [oB]
  refine List.nodup_append.2 ⟨ih,List.nodup_cons.2 ⟨List.not_mem_nil,List.nodup_nil⟩,fun a ha b hb=>?_⟩
  rw [List.mem_singleton.1 hb]
  have:=(vZ.1 ha).2
  omega

theorem vP {α:Type} (lt:α→α→Bool) (x:α):∀ l,(tG lt x l).Perm (x::l)
 | []=>List.Perm.refl _
 | y::l=>by
  simp only [tG]
  split
  ·exact ((vP lt x l).cons y).trans (List.Perm.swap x y l)
  ·exact List.Perm.refl _
theorem tK {α:Type} (lt:α→α→Bool):∀ l,(a9 lt l).Perm l
 | []=>List.Perm.refl _
 | x::l=>(vP lt x _).trans ((tK lt l).cons x)

theorem aCU {α:Type} {lt:α→α→Bool} (w:Weak lt) {l A B:List α} {x:α} (e:a9 lt l=A++B) (hA:∀ y∈A,lt x y=false) (hB:∀ y∈B,lt x y=true):a9 lt (l++[x])=A++[x]++B:=by
 have sd:Sd lt (A++B):=e ▸ iE w l
 have fe:FE lt (A++B) l:=e ▸ gS w l
 obtain ⟨s1,s2,s3⟩:=List.pairwise_append.1 sd
 refine (oU w (List.pairwise_append.2 ⟨List.pairwise_append.2 ⟨s1,List.pairwise_cons.2 ⟨fun _ h=>absurd h List.not_mem_nil,List.Pairwise.nil⟩,fun y hy z hz=>?_⟩,s2,fun y hy z hz=>?_⟩) ?_).symm
 ·rw [List.mem_singleton.1 hz]
  exact hA y hy
 ·rcases List.mem_append.1 hy with hy | hy
  ·exact s3 y hy z hz
  ·rw [List.mem_singleton.1 hy]
   exact w.asym (hB z hz)
 ·have f1:FE lt ([x]++B) (B++[x]):=(FE.swap w fun y hy z hz=>by
   rw [List.mem_singleton.1 hz]
   exact hB y hy).symm
  have f2:=(FE.refl (lt:=lt) A).app f1
  rw [← List.append_assoc,← List.append_assoc] at f2
  exact f2.trans (fe.app (FE.refl _))

/-! Places. -/
theorem t0 (js:List aS):Weak (bY js):=by
 have key:∀ i j,bY js i j=true↔(at_ js j).1.2.2.1 < (at_ js i).1.2.2.1∨((at_ js j).1.2.2.1=(at_ js i).1.2.2.1∧(at_ js i).2.1 < (at_ js j).2.1):=fun i j=>by
  unfold bY jX rK fE
  rw [decide_eq_true_eq]
  simp only [orI]
  constructor
  ·intro h
   split at h <;> split at h <;> (try split at h) <;> (try split at h) <;> (try split at h) <;> omega
  ·intro h
   split <;> split <;> (try split) <;> (try split) <;> (try split) <;> omega
 have kf:∀ i j,bY js i j=false↔¬((at_ js j).1.2.2.1 < (at_ js i).1.2.2.1∨((at_ js j).1.2.2.1=(at_ js i).1.2.2.1∧(at_ js i).2.1 < (at_ js j).2.1)):=fun i j=>by
  rw [← key]
  simp
 refine ⟨fun {x y} h=>?_,fun {x y z} h1 h2=>?_⟩
 ·rw [key] at h
  rw [kf]
  omega
 ·rw [kf] at h1 h2 ⊢
  omega

def dB (js:List aS) (k:Nat):List Int:=(uD k).filter fun i=>dC (at_ js i)
theorem oX {js:List aS} {k:Nat} (h:dC (at_ js k)=true):dB js (k+1)=dB js k++[(k:Int)]:=by
 unfold dB
 rw [oB,List.filter_append,List.filter_cons_of_pos (p:=fun i=>dC (at_ js i)) h]
 rfl
theorem rE {js:List aS} {k:Nat} (h:¬dC (at_ js k)=true):dB js (k+1)=dB js k:=by
 unfold dB
 rw [oB,List.filter_append,List.filter_cons_of_neg (p:=fun i=>dC (at_ js i)) h]
 exact List.append_nil _
theorem kN (js:List aS) (k:Nat):(dB js k).length≤k:=Nat.le_trans (List.length_filter_le _ _) (Nat.le_of_eq (aB7 k))
theorem kR {js:List aS} {k:Nat} {i:Int}:i∈dB js k↔(0≤i∧i < k)∧dC (at_ js i)=true:=by
 unfold dB
 rw [List.mem_filter,vZ]
theorem aAS {js:List aS} {i:Int}:i∈bN js↔(0≤i∧i < (js.length:Int))∧dC (at_ js i)=true:=by
 unfold bN
 rw [mR (t0 js)]
 exact kR
theorem oY (js:List aS):(bN js).Nodup:=(tK _ _).symm.nodup (List.Pairwise.filter _ (zT _))
theorem l8 (js:List aS):(bN js).length≤js.length:=by
 unfold bN
 rw [cC]
 exact kN js js.length
theorem t5 (js:List aS):InR js (bN js):=fun _ h=>(aAS.1 h).1
theorem u9 (l:List aS) (x:aS) (g:ByteArray):cY (l++[x],g)=cY (l,g)+if aO x=g then 1 else 0:=by
 unfold cY
 simp only
 rw [List.filter_append,List.length_append]
 by_cases c:aO x=g
 ·rw [List.filter_cons_of_pos (p:=fun j=>decide (aO j=g)) (decide_eq_true c),if_pos c]
  simp
 ·rw [List.filter_cons_of_neg (p:=fun j=>decide (aO j=g)) (by simpa using c),if_neg c]
  simp
theorem v4 (l:List aS) (g:ByteArray):0≤cY (l,g)∧cY (l,g)≤(l.length:Int):=by
 have:=List.length_filter_le (fun j=>decide (aO j=g)) l
 unfold cY
 simp only
 omega
theorem aEK {l:List aS} {x:aS} (h:x∈l):0 < cY (l,aO x):=by
 have:0 < (l.filter fun j=>decide (aO j=aO x)).length:=List.length_pos_of_mem (List.mem_filter.2 ⟨h,decide_eq_true rfl⟩)
 unfold cY
 simp only
 omega

theorem kX (js:List aS) (l:List Int) (n:Nat):eA js l (n+1)=eA js l n++lF js l n:=by
 unfold eA
 rw [List.range_succ,List.flatMap_append]
 simp
theorem aCG (js:List aS) (l:List Int) (n:Nat):(lF js l n).length≤1:=by
 unfold lF
 split
 ·exact Nat.le_refl _
 ·split
  ·exact Nat.le_refl _
  ·exact Nat.zero_le _
theorem mI (js:List aS) (l:List Int) (n:Nat):(eA js l n).length≤n:=by
 induction n with
 | zero=>exact Nat.le_refl _
 | succ n ih =>
  rw [kX,List.length_append]
  have:=aCG js l n
  omega

theorem qQ {l:List Int} (hn:l.Nodup) {j:Nat} (hj:j < l.length) {q:Int→Bool} (hq:q (l.getD j default)=true) :
  0 < (l.filter q).length∧((l.getD j default=(l.filter q).getD 0 default)↔∀ k,k < j→q (l.getD k default)=false):=by
 have hs:l=l.take j++l.getD j default::l.drop (j+1):=by
  rw [eC hj,← List.drop_eq_getElem_cons hj,List.take_append_drop]
 have hf:l.filter q=(l.take j).filter q++l.getD j default::(l.drop (j+1)).filter q:=by
  conv=>lhs; rw [hs]
  rw [List.filter_append,List.filter_cons_of_pos hq]
 refine ⟨by rw [hf,List.length_append,List.length_cons]; omega,?_⟩
 rw [hf]
 cases hA:(l.take j).filter q with
 | nil =>
  refine ⟨fun _ k hk=>?_,fun _=>rfl⟩
  cases hc:q (l.getD k default) with
  | false=>rfl
  | true =>
   have:l.getD k default∈(l.take j).filter q:=by
    refine List.mem_filter.2 ⟨?_,hc⟩
    rw [eC (by omega)]
    exact List.mem_take_iff_getElem.2 ⟨k,by omega,rfl⟩
   rw [hA] at this
   cases this
 | cons x A =>
  have hx:x∈(l.take j).filter q:=by rw [hA]; exact List.mem_cons_self ..
  obtain ⟨hx1,hx2⟩:=List.mem_filter.1 hx
  obtain ⟨k,hk,hkx⟩:=List.mem_take_iff_getElem.1 hx1
  have hkj:k < j:=by omega
  refine ⟨fun e=>?_,fun h=>?_⟩
  ·have e:l.getD j default=x:=e
   have e2:l[k]=l[j]:=by rw [hkx,← e,eC hj]
   exact absurd e2 (List.pairwise_iff_getElem.1 hn k j (by omega) hj hkj)
  ·have:=h k hkj
   rw [eC (by omega),hkx,hx2] at this
   cases this
end Go.Abs

-- interregnum/interregnumlaw14.few
namespace Go.Abs
open Go
def f92.ent (K:(List (aA))→Prop) (t:List (aA)):Prop:=∃ c:List (aA),SlQ t.length c.length (gl aD t) (gl aD c) (K c)
theorem f92.ei {K:(List (aA))→Prop} {t:List (aA)} (h:K t):f92.ent K t:=⟨t,slQ (Rds.self (enc:=aD)) (h)⟩
def f92.args (a:List (aA)):List D:=[.slice .ro 13 a.length (gl aD a)]
def f92.blks (a:List (aA)):List (List D):=[]
def f92.res (a:List (aA)):List D:=[.bool (i9 a)]
def f92.blks' (a:List (aA)):List (List D):=[]
def f92.C:aU:=FnC f92.args f92.blks (fun a=>L20 a) f92.res f92.blks'
end Go.Abs

/- interregnum/interregnumlaw14.few -/
namespace Go.Abs
open Go
set_option linter.unusedVariables false
def f92.S0 (a:List (aA)) (x:Int):Tm:=⟨[.slice .ro 13 a.length (gl aD a),.dead,.dead,.dead,.dead,.dead,.dead,.dead,.int .i64 (a.length:Int),.int .i64 x,.dead,.dead,.dead,.dead,.dead,.dead,.dead,.dead,.dead,.dead,.dead],[],[]⟩
def f92.kills (a:List (aA)):List fU:=[.tell Int (f92.S0 a)]
def f92.cuts (a:List (aA)):List (Nat×Σ β:Type,β→Tm):=[]
def f92.af (a:List (aA)):AF:=AF.mk (.seq (.region [⟨(some 2),0,.move,[.c (.bool false)],none⟩])
 (.seq (.seq (.region [oT 4 1 .move [0],
 oT 5 2 (.len false) [4],
 ⟨(some 6),3,(.bin .gtr),[.t 5,.c (.int .i64 (100))],none⟩])
 (.cond (.t 6) (.seq (.region [⟨(some 2),4,.move,[.c (.bool false)],none⟩])
 (.ret)) (.skip)))
 (.seq (.seq (.region [oT 7 5 .move [0],
 oT 8 6 (.len false) [7],
 ⟨(some 9),7,.move,[.c (.int .i64 (0))],none⟩])
 (.block 0 (.loopT Int (f92.S0 a) 8 22 (.seq (.region [oT 10 8 (.bin .lss) [9,8]])
 (.seq (.cond (.t 10) (.skip) (.exit 0))
 (.seq (.block 1 (.seq (.region [oT 11 9 .move [9],
 oT 3 10 .move [11]])
 (.seq (.region [oT 12 11 .move [0],
 oT 13 12 .move [3],
 oT 14 13 (.indexAddr 13 none) [12,13],
 oT 15 14 (.fieldAddr 0) [14],
 oT 16 15 (.fieldAddr 8) [15],
 oT 17 16 (.load false 1) [16],
 oT 18 17 (.len true) [17],
 ⟨(some 19),18,(.bin .gtr),[.t 18,.c (.int .i64 (1000))],none⟩])
 (.cond (.t 19) (.seq (.region [⟨(some 2),19,.move,[.c (.bool false)],none⟩])
 (.ret)) (.skip)))))
 (.region [⟨(some 20),20,(.bin .add),[.t 9,.c (.int .i64 (1))],none⟩,
 oT 9 21 .move [20]])))))))
 (.seq (.region [⟨(some 2),22,.move,[.c (.bool true)],none⟩])
 (.ret)))))
 [.tmp 2] 0 20
def f92.env:Env:=[]
def f92.tree (a:List (aA)):Prop:=Br (decide ((100:Int) < (a.length:Int))) ((false=(i9 a))∧True) (∃ (I5:Int→Prop) (μ6:Int→Nat),(∃ x4:Int,SlS aD a (((a.length:Int)=(a.length:Int))∧((0:Int)=x4)∧I5 x4))∧∀ y7:Int,I5 y7→(Br (decide (y7 < (a.length:Int))) (Br (decide ((0:Int)≤y7)&&decide (y7 < (a.length:Int))) (Br (decide ((1000:Int) < ((((at_ a y7).1).2.2.2.2.2.2.1).size:Int))) ((false=(i9 a))∧True) (Let (IntKind.i64.wrap (y7+(1:Int))) (fun v14:Int=>∃ x15:Int,SlS aD a (((a.length:Int)=(a.length:Int))∧(v14=x15)∧I5 x15∧μ6 x15 < μ6 y7)))) False) ((true=(i9 a))∧True)))
def f92.vc (a:List (aA)):Prop:=(((100:Int) < (a.length:Int)→(false=i9 a))∧(¬((100:Int) < (a.length:Int))→(∃ (I5:Int→Prop) (μ6:Int→Nat),I5 (0:Int)∧∀ y7:Int,I5 y7→((y7 < (a.length:Int)→((0:Int)≤y7∧y7 < (a.length:Int)∧(((1000:Int) < ((((at_ a y7).1).2.2.2.2.2.2.1).size:Int)→(false=i9 a))∧(¬((1000:Int) < ((((at_ a y7).1).2.2.2.2.2.2.1).size:Int))→(-9223372036854775808≤(y7+(1:Int))∧(y7+(1:Int))≤9223372036854775807∧(I5 (y7+(1:Int))∧μ6 (y7+(1:Int)) < μ6 y7))))))∧(¬(y7 < (a.length:Int))→(true=i9 a))))))
set_option maxRecDepth 100000 in
set_option maxHeartbeats 2000000 in
theorem f92.of (a:List (aA)) (h:f92.vc a):f92.tree a:=br h Cnd.dec (fun h1 k29=>⟨k29,trivial⟩) (fun h2 k30=>Exists.elim k30 (fun I5 h26_=>Exists.elim h26_ (fun μ6 h26=>⟨I5,μ6,⟨(0:Int),SlS.mk  (⟨rfl,⟨rfl,h26.1⟩⟩)⟩,fun y7 h28=>br (h26.2 y7 h28) Cnd.dec (fun h8 k24=>chk k24.2.2 Cnd.ix ⟨k24.1,k24.2.1⟩ (fun h10 k22=>br k22 Cnd.dec (fun h11 k20=>⟨k20,trivial⟩) (fun h12 k21=>wrapK.i64 k21 (fun h17 h18 k19=>⟨(y7+(1:Int)),SlS.mk  (⟨rfl,⟨rfl,k19⟩⟩)⟩)))) (fun h9 k25=>⟨k25,trivial⟩)⟩)))
theorem f92.eq (a:List (aA)):(f92.af a).gives f92.env (f92.args a) (f92.blks a) (f92.res a) (f92.blks' a)=f92.tree a:=by kernel_rfl
end Go.Abs

-- interregnum/order.Units
namespace Go.Abs
open Go
def f93.ent (K:(List (aA))→Prop) (t:List (aA)):Prop:=∃ c:List (aA),SlQ t.length c.length (gl aD t) (gl aD c) (K c)
theorem f93.ei {K:(List (aA))→Prop} {t:List (aA)} (h:K t):f93.ent K t:=⟨t,slQ (Rds.self (enc:=aD)) (h)⟩
def f93.args (a:List (aA)):List D:=[.slice .ro 13 a.length (gl aD a)]
def f93.blks (a:List (aA)):List (List D):=[]
def f93.res (a:List (aA)):List D:=[.slice .ro 1 ((bL a).length) (gl aE (bL a))]
def f93.blks' (a:List (aA)):List (List D):=[]
def f93.C:aU:=FnC f93.args f93.blks (fun a=>dP a) f93.res f93.blks'
end Go.Abs

-- slices.Clone[[]int,int]
namespace Go.Abs
open Go
def f117.ent (K:(List (Int))→Prop) (t:List (Int)):Prop:=∃ c:List (Int),SlQ t.length c.length (gl aC t) (gl aC c) (K c)
theorem f117.ei {K:(List (Int))→Prop} {t:List (Int)} (h:K t):f117.ent K t:=⟨t,slQ (Rds.self (enc:=aC)) (h)⟩
def f117.args (a:List (Int)):List D:=[.slice .ro 1 a.length (gl aC a)]
def f117.blks (a:List (Int)):List (List D):=[]
def f117.res (a:List (Int)):List D:=[.slice .ro 1 ((d7 a).length) (gl aC (d7 a))]
def f117.blks' (a:List (Int)):List (List D):=[]
def f117.C:aU:=FnC f117.args f117.blks (fun a=>L20 a) f117.res f117.blks'
end Go.Abs

/- interregnum/order.Units -/
namespace Go.Abs
open Go
set_option linter.unusedVariables false
def f93.S0 (a:List (aA)) (x:Int×(List (Int))×(List (ByteArray×aI))):Tm:=⟨[.dead,.ptr 1000000 0,.dead,.msl 1000003 1 (List.length x.2.1),.mref 1000004,.dead,.dead,.dead,.dead,.dead,.dead,.dead,.dead,.dead,.dead,.dead,.dead,.slice .ro 13 a.length (gl aD a),.int .i64 (a.length:Int),.int .i64 x.1,.dead,.dead,.dead,.dead,.dead,.dead,.dead,.dead,.dead,.dead,.dead,.dead,.dead,.dead,.dead,.dead,.dead,.dead,.dead,.dead,.dead,.dead,.dead,.dead,.dead,.dead,.dead,.dead,.dead,.dead,.dead,.dead,.dead,.dead,.dead,.dead,.dead,.dead,.dead,.dead,.dead,.dead,.dead,.dead,.dead,.dead,.dead,.dead,.dead,.dead,.dead,.dead,.dead,.dead,.dead,.dead,.dead,.dead,.dead,.dead,.dead,.dead,.dead,.dead,.dead,.dead,.dead,.dead,.dead,.dead,.dead,.dead,.dead,.dead,.dead,.dead,.dead,.dead,.dead,.dead,.dead,.dead,.dead,.dead,.dead,.dead,.dead,.dead,.dead,.dead,.dead,.dead,.dead,.dead,.dead,.dead,.dead,.dead,.dead,.dead,.dead,.dead,.dead],[(1000000,false,[.slice .ro 13 a.length (gl aD a)]),(1000003,false,[.dead,.arr true 1 (List.length x.2.1) (gl aC x.2.1)]),(1000004,false,[.nilp,.mp true (List.length x.2.2) (mks x.2.2) (mvs aG x.2.2)])],[]⟩
def f93.S1 (a:List (aA)) (x:(List (Int))×(List (Int))×Int×Int×(List (ByteArray×aI))):Tm:=⟨[.dead,.ptr 1000000 0,.dead,.slice .ro 1 x.1.length (gl aC x.1),.mref 1000004,.dead,.dead,.dead,.dead,.dead,.dead,.dead,.dead,.dead,.dead,.dead,.dead,.dead,.dead,.dead,.dead,.dead,.dead,.dead,.dead,.dead,.dead,.dead,.dead,.dead,.dead,.dead,.dead,.dead,.dead,.dead,.dead,.dead,.dead,.dead,.dead,.dead,.dead,.dead,.dead,.dead,.dead,.dead,.slice .ro 1 x.2.1.length (gl aC x.2.1),.int .i64 x.2.2.1,.int .i64 x.2.2.2.1,.dead,.dead,.dead,.dead,.dead,.dead,.dead,.dead,.dead,.dead,.dead,.dead,.dead,.dead,.dead,.dead,.dead,.dead,.dead,.dead,.dead,.dead,.dead,.dead,.dead,.dead,.dead,.dead,.dead,.dead,.dead,.dead,.dead,.dead,.dead,.dead,.dead,.dead,.dead,.dead,.dead,.dead,.dead,.dead,.dead,.dead,.dead,.dead,.dead,.dead,.dead,.dead,.dead,.dead,.dead,.dead,.dead,.dead,.dead,.dead,.dead,.dead,.dead,.dead,.dead,.dead,.dead,.dead,.dead,.dead,.dead,.dead],[(1000000,true,[.slice .ro 13 a.length (gl aD a)]),(1000004,false,[.nilp,.mp true (List.length x.2.2.2.2) (mks x.2.2.2.2) (mvs aG x.2.2.2.2)])],[]⟩
def f93.S2 (a:List (aA)) (x:(List (List (Int)))×(List (Int))×Int×Int×(List (ByteArray×aI))):Tm:=⟨[.dead,.ptr 1000000 0,.dead,.dead,.mref 1000004,.dead,.dead,.dead,.dead,.dead,.dead,.slice (.own 1000108) 1 x.1.length (gl aE x.1),.dead,.dead,.dead,.dead,.dead,.dead,.dead,.dead,.dead,.dead,.dead,.dead,.dead,.dead,.dead,.dead,.dead,.dead,.dead,.dead,.dead,.dead,.dead,.dead,.dead,.dead,.dead,.dead,.dead,.dead,.dead,.dead,.dead,.dead,.dead,.dead,.dead,.dead,.dead,.dead,.dead,.dead,.dead,.dead,.dead,.dead,.dead,.dead,.dead,.dead,.dead,.dead,.dead,.dead,.dead,.dead,.dead,.dead,.dead,.dead,.dead,.dead,.dead,.dead,.dead,.slice .ro 1 x.2.1.length (gl aC x.2.1),.int .i64 x.2.2.1,.int .i64 x.2.2.2.1,.dead,.dead,.dead,.dead,.dead,.dead,.dead,.dead,.dead,.dead,.dead,.dead,.dead,.dead,.dead,.dead,.dead,.dead,.dead,.dead,.dead,.dead,.dead,.dead,.dead,.dead,.dead,.dead,.dead,.dead,.dead,.dead,.dead,.dead,.dead,.dead,.dead,.dead,.dead,.dead,.dead,.dead,.dead],[(1000000,true,[.slice .ro 13 a.length (gl aD a)]),(1000004,false,[.dead,.mp true (List.length x.2.2.2.2) (mks x.2.2.2.2) (mvs aG x.2.2.2.2)])],[(1000108,1,x.1.length)]⟩
def f93.kills (a:List (aA)):List fU:=[.tell (Int×(List (Int))×(List (ByteArray×aI))) (f93.S0 a),
 .tell ((List (Int))×(List (Int))×Int×Int×(List (ByteArray×aI))) (f93.S1 a),
 .tell ((List (List (Int)))×(List (Int))×Int×Int×(List (ByteArray×aI))) (f93.S2 a)]
def f93.cuts (a:List (aA)):List (Nat×Σ β:Type,β→Tm):=[(999999,⟨Unit,fun x=>⟨[],[],[]⟩⟩),
 (1000003000001,⟨Unit,fun x=>⟨[],[],[]⟩⟩),
 (2000003000013,⟨Unit,fun x=>⟨[],[],[]⟩⟩)]
def f93.af (a:List (aA)):AF:=AF.mk (.seq (.region [oT 1 1000000 .box [0],
 oT 2 1000001 (.nilSl 1) []])
 (.seq (.region [oT 3 1000002 (.nilSl 1) []])
 (.seq (.thaw 1000003 3) (.seq (.region [oT 16 1000004 (.mkMap true true) [],
 oT 4 1000005 .move [16]])
 (.seq (.seq (.region [oT 17 1000006 (.load false 1) [1],
 oT 18 1000007 (.len false) [17],
 ⟨(some 19),1000008,.move,[.c (.int .i64 (0))],none⟩])
 (.block 0 (.loopT (Int×(List (Int))×(List (ByteArray×aI))) (f93.S0 a) 1000009 1000063 (.seq (.region [oT 20 1000009 (.bin .lss) [19,18]])
 (.seq (.cond (.t 20) (.skip) (.exit 0))
 (.seq (.block 1 (.seq (.region [oT 21 1000010 .move [19],
 oT 22 1000011 (.indexAddr 13 none) [17,19],
 oT 23 1000012 (.load true 13) [22],
 oT 6 1000013 (.alloc [.str ByteArray.empty,.str ByteArray.empty,.int .i64 (0),.int .i64 (0),.int .i64 (0),.int .i64 (0),.slice (.own 0) 2 0 cO,.str ByteArray.empty,.str ByteArray.empty,.int .i64 (0),.int .i64 (0),.str ByteArray.empty,.int .i64 (0)]) [],
 oT 5 1000027 .move [21],
 ⟨none,1000028,(.store 13),[.t 6,.t 23],none⟩])
 (.seq (.region [oT 24 1000029 .move [4],
 oT 25 1000030 (.fieldAddr 0) [6],
 oT 26 1000031 (.fieldAddr 8) [25],
 oT 27 1000032 (.load false 1) [26],
 oT 28 1000033 (.mapGet false true [.int .i64 (0),.slice .full 1 0 cO]) [24,27],
 oT 7 1000036 (.alloc [.int .i64 (0),.slice (.own 0) 1 0 cO]) [],
 ⟨none,1000039,(.store 2),[.t 7,.t 28],none⟩])
 (.seq (.region [oT 29 1000040 (.fieldAddr 0) [7],
 oT 30 1000041 (.load false 1) [29],
 ⟨(some 31),1000042,(.bin .add),[.t 30,.c (.int .i64 (1))],none⟩,
 oT 32 1000043 (.fieldAddr 0) [7],
 ⟨none,1000044,(.store 1),[.t 32,.t 31],none⟩])
 (.seq (.region [oT 33 1000045 .move [4],
 oT 34 1000046 (.fieldAddr 0) [6],
 oT 35 1000047 (.fieldAddr 8) [34],
 oT 36 1000048 (.load false 1) [35],
 oT 37 1000049 (.load true 2) [7],
 ⟨none,1000050,.mapSet,[.t 33,.t 36,.t 37],none⟩])
 (.seq (.region [oT 38 1000051 (.load true 13) [6],
 oT 39 1000052 (.call false 33) [38]])
 (.cond (.t 39) (.region [oT 40 1000056 .move [3],
 oT 41 1000057 .move [5],
 oT 42 1000058 (.buildSlice 1 1 [.int .i64 (0)] [(0,1)]) [41],
 oT 43 1000059 (.append 1 8) [40,42],
 oT 3 1000060 .move [43]]) (.skip))))))))
 (.region [⟨(some 44),1000061,(.bin .add),[.t 19,.c (.int .i64 (1))],none⟩,
 oT 19 1000062 .move [44]])))))))
 (.seq (.region [oT 45 1000063 .move [3],
 oT 46 1000064 (.mkfunc 115 1000000) [1],
 oT 47 1000065 (.call true 114) [45,46]])
 (.seq (.frz 3) (.seq (.seq (.region [oT 48 1000069 .move [3],
 oT 49 1000070 (.len false) [48],
 ⟨(some 50),1000071,.move,[.c (.int .i64 (0))],none⟩])
 (.block 2 (.loopT ((List (Int))×(List (Int))×Int×Int×(List (ByteArray×aI))) (f93.S1 a) 1000072 1000108 (.seq (.region [oT 51 1000072 (.bin .lss) [50,49]])
 (.seq (.cond (.t 51) (.skip) (.exit 2))
 (.seq (.block 3 (.seq (.region [oT 52 1000073 (.indexAddr 1 none) [48,50],
 oT 53 1000074 (.load false 1) [52],
 oT 9 1000075 .move [53]])
 (.seq (.region [oT 54 1000076 .move [4],
 oT 55 1000077 (.load false 1) [1],
 oT 56 1000078 .move [9],
 oT 57 1000079 (.indexAddr 13 none) [55,56],
 oT 58 1000080 (.fieldAddr 0) [57],
 oT 59 1000081 (.fieldAddr 8) [58],
 oT 60 1000082 (.load false 1) [59],
 oT 61 1000083 (.mapGet false true [.int .i64 (0),.slice .full 1 0 cO]) [54,60],
 oT 10 1000086 (.alloc [.int .i64 (0),.slice (.own 0) 1 0 cO]) [],
 ⟨none,1000089,(.store 2),[.t 10,.t 61],none⟩])
 (.seq (.region [oT 62 1000090 (.fieldAddr 1) [10],
 oT 63 1000091 (.load false 1) [62],
 oT 64 1000092 .move [9],
 oT 65 1000093 (.buildSlice 1 1 [.int .i64 (0)] [(0,1)]) [64],
 oT 66 1000094 (.append 1 8) [63,65],
 oT 67 1000095 (.fieldAddr 1) [10],
 ⟨none,1000096,(.store 1),[.t 67,.t 66],none⟩])
 (.region [oT 68 1000097 .move [4],
 oT 69 1000098 (.load false 1) [1],
 oT 70 1000099 .move [9],
 oT 71 1000100 (.indexAddr 13 none) [69,70],
 oT 72 1000101 (.fieldAddr 0) [71],
 oT 73 1000102 (.fieldAddr 8) [72],
 oT 74 1000103 (.load false 1) [73],
 oT 75 1000104 (.load true 2) [10],
 ⟨none,1000105,.mapSet,[.t 68,.t 74,.t 75],none⟩])))))
 (.region [⟨(some 76),1000106,(.bin .add),[.t 50,.c (.int .i64 (1))],none⟩,
 oT 50 1000107 .move [76]])))))))
 (.seq (.region [oT 11 1000108 (.nilSl 1) []])
 (.seq (.seq (.region [oT 77 1000109 .move [3],
 oT 78 1000110 (.len false) [77],
 ⟨(some 79),1000111,.move,[.c (.int .i64 (0))],none⟩])
 (.block 4 (.loopT ((List (List (Int)))×(List (Int))×Int×Int×(List (ByteArray×aI))) (f93.S2 a) 1000112 1000179 (.seq (.region [oT 80 1000112 (.bin .lss) [79,78]])
 (.seq (.cond (.t 80) (.skip) (.exit 4))
 (.seq (.block 5 (.seq (.region [oT 81 1000113 (.indexAddr 1 none) [77,79],
 oT 82 1000114 (.load false 1) [81],
 oT 13 1000115 .move [82]])
 (.seq (.region [oT 83 1000116 (.load false 1) [1],
 oT 84 1000117 .move [13],
 oT 85 1000118 (.indexAddr 13 none) [83,84],
 oT 86 1000119 (.fieldAddr 0) [85],
 oT 87 1000120 (.load true 10) [86],
 oT 14 1000121 (.alloc [.str ByteArray.empty,.str ByteArray.empty,.int .i64 (0),.int .i64 (0),.int .i64 (0),.int .i64 (0),.slice (.own 0) 2 0 cO,.str ByteArray.empty,.str ByteArray.empty,.int .i64 (0)]) [],
 ⟨none,1000132,(.store 10),[.t 14,.t 87],none⟩])
 (.seq (.region [oT 88 1000133 .move [4],
 oT 89 1000134 (.fieldAddr 8) [14],
 oT 90 1000135 (.load false 1) [89],
 oT 91 1000136 (.mapGet false true [.int .i64 (0),.slice .full 1 0 cO]) [88,90],
 oT 15 1000139 (.alloc [.int .i64 (0),.slice (.own 0) 1 0 cO]) [],
 ⟨none,1000142,(.store 2),[.t 15,.t 91],none⟩])
 (.block 6 (.seq (.region [oT 93 1000143 (.fieldAddr 8) [14],
 oT 94 1000144 (.load false 1) [93],
 ⟨(some 95),1000145,(.bin .eql),[.t 94,.c (.str ByteArray.empty)],none⟩,
 oT 92 1000146 .move [95]])
 (.cond (.t 92) (.region [oT 96 1000147 .move [11],
 oT 97 1000148 .move [13],
 oT 98 1000149 (.buildSlice 1 1 [.int .i64 (0)] [(0,1)]) [97],
 oT 99 1000150 (.buildSlice 1 1 [.slice .full 1 0 cO] [(0,1)]) [98],
 oT 100 1000151 (.append 1 24) [96,99],
 oT 11 1000152 .move [100]]) (.seq (.region [oT 102 1000153 .move [13],
 oT 103 1000154 (.fieldAddr 1) [15],
 oT 104 1000155 (.load false 1) [103],
 ⟨(some 105),1000156,(.indexAddr 1 none),[.t 104,.c (.int .i64 (0))],none⟩,
 oT 106 1000157 (.load false 1) [105],
 oT 107 1000158 (.bin .eql) [102,106],
 oT 108 1000159 .move [107],
 oG 109 1000160 (.fieldAddr 0) [15] 108 true,
 oG 110 1000161 (.load false 1) [109] 108 true,
 oG 111 1000162 (.fieldAddr 9) [14] 108 true,
 oG 112 1000163 (.load false 1) [111] 108 true,
 oG 113 1000164 (.bin .geq) [110,112] 108 true,
 ⟨(some 114),1000165,.pick,[.t 108,.t 113,.c (.bool false)],none⟩,
 oT 101 1000166 .move [114]])
 (.cond (.t 101) (.region [oT 115 1000167 .move [11],
 oT 116 1000168 (.fieldAddr 1) [15],
 oT 117 1000169 (.load false 1) [116],
 oT 118 1000170 (.call true 117) [117],
 oT 119 1000174 (.buildSlice 1 1 [.slice .full 1 0 cO] [(0,1)]) [118],
 oT 120 1000175 (.append 1 24) [115,119],
 oT 11 1000176 .move [120]]) (.skip))))))))))
 (.region [⟨(some 121),1000177,(.bin .add),[.t 79,.c (.int .i64 (1))],none⟩,
 oT 79 1000178 .move [121]])))))))
 (.seq (.region [oT 122 1000179 .move [11],
 oT 2 1000180 .move [122]])
 (.ret))))))))))))
 [.tmp 2] 0 122
def f93.env:Env:=[(33,f33.C),(114,f114.C),(117,f117.C)]
def f93.tree (a:List (aA)):Prop:=∃ (I2:(Int×(List (Int))×(List (ByteArray×aI)))→Prop) (μ3:(Int×(List (Int))×(List (ByteArray×aI)))→Nat),(∃ x1:Int×(List (Int))×(List (ByteArray×aI)),(0=(List.length x1.2.1))∧SlS aD a (((a.length:Int)=(a.length:Int))∧((0:Int)=x1.1)∧SlS aD a (SlQ 0 (List.length x1.2.1) cO (gl aC x1.2.1) ((0=(List.length x1.2.2))∧(∀ i,i < (List.length x1.2.2)→(fun _=>.empty) i=(mks x1.2.2) i)∧(∀ i,i < (List.length x1.2.2)→DEqs (cO i) ((mvs aG x1.2.2) i))∧I2 x1))))∧∀ y4:Int×(List (Int))×(List (ByteArray×aI)),I2 y4→(Br (decide (y4.1 < (a.length:Int))) (Br (decide ((0:Int)≤y4.1)&&decide (y4.1 < (a.length:Int))) (Br (iN y4.2.2 (((at_ a y4.1).1).2.2.2.2.2.2.1)) (Let (IntKind.i64.wrap (((mat y4.2.2 (((at_ a y4.1).1).2.2.2.2.2.2.1)).1)+(1:Int))) (fun v10:Int=>((((at_ a y4.1).1).2.2.2.2.2.2.1)=(((at_ a y4.1).1).2.2.2.2.2.2.1)∧(((mat y4.2.2 (((at_ a y4.1).1).2.2.2.2.2.2.1)).2).length)=(((mat y4.2.2 (((at_ a y4.1).1).2.2.2.2.2.2.1)).2).length)∧True)∧(f33.ent (fun c11=>True∧Br (dC c11) (((List.length y4.2.1)=(List.length y4.2.1)∧fW (((List.length y4.2.1)+1) * 8))∧(Let (IntKind.i64.wrap (y4.1+(1:Int))) (fun v14:Int=>∃ x15:Int×(List (Int))×(List (ByteArray×aI)),(((List.length y4.2.1)+1)=(List.length x15.2.1))∧SlS aD a (((a.length:Int)=(a.length:Int))∧(v14=x15.1)∧SlS aD a (SlQ ((List.length y4.2.1)+1) (List.length x15.2.1) (cZ (gl aC y4.2.1) (List.length y4.2.1) (fun _=>[.int .i64 y4.1])) (gl aC x15.2.1) (((mpN (mks y4.2.2) (((at_ a y4.1).1).2.2.2.2.2.2.1) (List.length y4.2.2))=(List.length x15.2.2))∧(∀ i,i < (List.length x15.2.2)→(iF (mks y4.2.2) (((at_ a y4.1).1).2.2.2.2.2.2.1) (List.length y4.2.2)) i=(mks x15.2.2) i)∧(∀ i,i < (List.length x15.2.2)→DEqs ((hJ (mks y4.2.2) (mvs aG y4.2.2) (((at_ a y4.1).1).2.2.2.2.2.2.1) [.int .i64 v10,.slice .ro 1 (((mat y4.2.2 (((at_ a y4.1).1).2.2.2.2.2.2.1)).2).length) (gl aC ((mat y4.2.2 (((at_ a y4.1).1).2.2.2.2.2.2.1)).2))] (List.length y4.2.2)) i) ((mvs aG x15.2.2) i))∧I2 x15∧μ3 x15 < μ3 y4)))))) (Let (IntKind.i64.wrap (y4.1+(1:Int))) (fun v20:Int=>∃ x21:Int×(List (Int))×(List (ByteArray×aI)),((List.length y4.2.1)=(List.length x21.2.1))∧SlS aD a (((a.length:Int)=(a.length:Int))∧(v20=x21.1)∧SlS aD a (SlQ (List.length y4.2.1) (List.length x21.2.1) (gl aC y4.2.1) (gl aC x21.2.1) (((mpN (mks y4.2.2) (((at_ a y4.1).1).2.2.2.2.2.2.1) (List.length y4.2.2))=(List.length x21.2.2))∧(∀ i,i < (List.length x21.2.2)→(iF (mks y4.2.2) (((at_ a y4.1).1).2.2.2.2.2.2.1) (List.length y4.2.2)) i=(mks x21.2.2) i)∧(∀ i,i < (List.length x21.2.2)→DEqs ((hJ (mks y4.2.2) (mvs aG y4.2.2) (((at_ a y4.1).1).2.2.2.2.2.2.1) [.int .i64 v10,.slice .ro 1 (((mat y4.2.2 (((at_ a y4.1).1).2.2.2.2.2.2.1)).2).length) (gl aC ((mat y4.2.2 (((at_ a y4.1).1).2.2.2.2.2.2.1)).2))] (List.length y4.2.2)) i) ((mvs aG x21.2.2) i))∧I2 x21∧μ3 x21 < μ3 y4)))))) (at_ a y4.1)))) (((((at_ a y4.1).1).2.2.2.2.2.2.1)=(((at_ a y4.1).1).2.2.2.2.2.2.1)∧True)∧(f33.ent (fun c32=>True∧Br (dC c32) (((List.length y4.2.1)=(List.length y4.2.1)∧fW (((List.length y4.2.1)+1) * 8))∧(Let (IntKind.i64.wrap (y4.1+(1:Int))) (fun v35:Int=>∃ x36:Int×(List (Int))×(List (ByteArray×aI)),(((List.length y4.2.1)+1)=(List.length x36.2.1))∧SlS aD a (((a.length:Int)=(a.length:Int))∧(v35=x36.1)∧SlS aD a (SlQ ((List.length y4.2.1)+1) (List.length x36.2.1) (cZ (gl aC y4.2.1) (List.length y4.2.1) (fun _=>[.int .i64 y4.1])) (gl aC x36.2.1) (((mpN (mks y4.2.2) (((at_ a y4.1).1).2.2.2.2.2.2.1) (List.length y4.2.2))=(List.length x36.2.2))∧(∀ i,i < (List.length x36.2.2)→(iF (mks y4.2.2) (((at_ a y4.1).1).2.2.2.2.2.2.1) (List.length y4.2.2)) i=(mks x36.2.2) i)∧(∀ i,i < (List.length x36.2.2)→DEqs ((hJ (mks y4.2.2) (mvs aG y4.2.2) (((at_ a y4.1).1).2.2.2.2.2.2.1) [.int .i64 (1:Int),.slice .ro 1 0 cO] (List.length y4.2.2)) i) ((mvs aG x36.2.2) i))∧I2 x36∧μ3 x36 < μ3 y4)))))) (Let (IntKind.i64.wrap (y4.1+(1:Int))) (fun v41:Int=>∃ x42:Int×(List (Int))×(List (ByteArray×aI)),((List.length y4.2.1)=(List.length x42.2.1))∧SlS aD a (((a.length:Int)=(a.length:Int))∧(v41=x42.1)∧SlS aD a (SlQ (List.length y4.2.1) (List.length x42.2.1) (gl aC y4.2.1) (gl aC x42.2.1) (((mpN (mks y4.2.2) (((at_ a y4.1).1).2.2.2.2.2.2.1) (List.length y4.2.2))=(List.length x42.2.2))∧(∀ i,i < (List.length x42.2.2)→(iF (mks y4.2.2) (((at_ a y4.1).1).2.2.2.2.2.2.1) (List.length y4.2.2)) i=(mks x42.2.2) i)∧(∀ i,i < (List.length x42.2.2)→DEqs ((hJ (mks y4.2.2) (mvs aG y4.2.2) (((at_ a y4.1).1).2.2.2.2.2.2.1) [.int .i64 (1:Int),.slice .ro 1 0 cO] (List.length y4.2.2)) i) ((mvs aG x42.2.2) i))∧I2 x42∧μ3 x42 < μ3 y4)))))) (at_ a y4.1)))) False) (((List.length y4.2.1)=(List.length y4.2.1))∧∃ c53:(List (Int))×(List (aA)),((List.length y4.2.1)=List.length c53.1)∧(DEqs [.eptr [.slice .ro 13 a.length (gl aD a)]] [.eptr [.slice .ro 13 c53.2.length (gl aD c53.2)]])∧SlQ (List.length y4.2.1) (List.length c53.1) (gl aC y4.2.1) (gl aC c53.1) ((nA c53)∧((List.length (fK c53))=(List.length y4.2.1))∧(∃ (I56:((List (Int))×(List (Int))×Int×Int×(List (ByteArray×aI)))→Prop) (μ57:((List (Int))×(List (Int))×Int×Int×(List (ByteArray×aI)))→Nat),(∃ x55:(List (Int))×(List (Int))×Int×Int×(List (ByteArray×aI)),SlQ (List.length (fK c53)) x55.1.length (gl aC (fK c53)) (gl aC x55.1) (SlQ (List.length (fK c53)) x55.2.1.length (gl aC (fK c53)) (gl aC x55.2.1) (((List.length (fK c53):Int)=x55.2.2.1)∧((0:Int)=x55.2.2.2.1)∧SlS aD a (((List.length y4.2.2)=(List.length x55.2.2.2.2))∧(∀ i,i < (List.length x55.2.2.2.2)→(mks y4.2.2) i=(mks x55.2.2.2.2) i)∧(∀ i,i < (List.length x55.2.2.2.2)→DEqs ((mvs aG y4.2.2) i) ((mvs aG x55.2.2.2.2) i))∧I56 x55))))∧∀ y58:(List (Int))×(List (Int))×Int×Int×(List (ByteArray×aI)),I56 y58→(Br (decide (y58.2.2.2.1 < y58.2.2.1)) (Br (decide ((0:Int)≤y58.2.2.2.1)&&decide (y58.2.2.2.1 < (y58.2.1.length:Int))) (Br (decide ((0:Int)≤(at_ y58.2.1 y58.2.2.2.1))&&decide ((at_ y58.2.1 y58.2.2.2.1) < (a.length:Int))) (Br (iN y58.2.2.2.2 (((at_ a (at_ y58.2.1 y58.2.2.2.1)).1).2.2.2.2.2.2.1)) (((((mat y58.2.2.2.2 (((at_ a (at_ y58.2.1 y58.2.2.2.1)).1).2.2.2.2.2.2.1)).2).length)=(((mat y58.2.2.2.2 (((at_ a (at_ y58.2.1 y58.2.2.2.1)).1).2.2.2.2.2.2.1)).2).length)∧fW (((((mat y58.2.2.2.2 (((at_ a (at_ y58.2.1 y58.2.2.2.1)).1).2.2.2.2.2.2.1)).2).length)+1) * 8))∧(Br (decide ((0:Int)≤(at_ y58.2.1 y58.2.2.2.1))&&decide ((at_ y58.2.1 y58.2.2.2.1) < (a.length:Int))) (((((at_ a (at_ y58.2.1 y58.2.2.2.1)).1).2.2.2.2.2.2.1)=(((at_ a (at_ y58.2.1 y58.2.2.2.1)).1).2.2.2.2.2.2.1)∧((((mat y58.2.2.2.2 (((at_ a (at_ y58.2.1 y58.2.2.2.1)).1).2.2.2.2.2.2.1)).2).length)+1)=((((mat y58.2.2.2.2 (((at_ a (at_ y58.2.1 y58.2.2.2.1)).1).2.2.2.2.2.2.1)).2).length)+1)∧True)∧(Let (IntKind.i64.wrap (y58.2.2.2.1+(1:Int))) (fun v66:Int=>∃ x67:(List (Int))×(List (Int))×Int×Int×(List (ByteArray×aI)),SlQ y58.1.length x67.1.length (gl aC y58.1) (gl aC x67.1) (SlQ y58.2.1.length x67.2.1.length (gl aC y58.2.1) (gl aC x67.2.1) ((y58.2.2.1=x67.2.2.1)∧(v66=x67.2.2.2.1)∧SlS aD a (((mpN (mks y58.2.2.2.2) (((at_ a (at_ y58.2.1 y58.2.2.2.1)).1).2.2.2.2.2.2.1) (List.length y58.2.2.2.2))=(List.length x67.2.2.2.2))∧(∀ i,i < (List.length x67.2.2.2.2)→(iF (mks y58.2.2.2.2) (((at_ a (at_ y58.2.1 y58.2.2.2.1)).1).2.2.2.2.2.2.1) (List.length y58.2.2.2.2)) i=(mks x67.2.2.2.2) i)∧(∀ i,i < (List.length x67.2.2.2.2)→DEqs ((hJ (mks y58.2.2.2.2) (mvs aG y58.2.2.2.2) (((at_ a (at_ y58.2.1 y58.2.2.2.1)).1).2.2.2.2.2.2.1) [.int .i64 ((mat y58.2.2.2.2 (((at_ a (at_ y58.2.1 y58.2.2.2.1)).1).2.2.2.2.2.2.1)).1),.slice .ro 1 ((((mat y58.2.2.2.2 (((at_ a (at_ y58.2.1 y58.2.2.2.1)).1).2.2.2.2.2.2.1)).2).length)+1) (cZ (gl aC ((mat y58.2.2.2.2 (((at_ a (at_ y58.2.1 y58.2.2.2.1)).1).2.2.2.2.2.2.1)).2)) (((mat y58.2.2.2.2 (((at_ a (at_ y58.2.1 y58.2.2.2.1)).1).2.2.2.2.2.2.1)).2).length) (fun _=>[.int .i64 (at_ y58.2.1 y58.2.2.2.1)]))] (List.length y58.2.2.2.2)) i) ((mvs aG x67.2.2.2.2) i))∧I56 x67∧μ57 x67 < μ57 y58)))))) False)) ((fW ((0+1) * 8))∧(Br (decide ((0:Int)≤(at_ y58.2.1 y58.2.2.2.1))&&decide ((at_ y58.2.1 y58.2.2.2.1) < (a.length:Int))) (((((at_ a (at_ y58.2.1 y58.2.2.2.1)).1).2.2.2.2.2.2.1)=(((at_ a (at_ y58.2.1 y58.2.2.2.1)).1).2.2.2.2.2.2.1)∧1=1∧True)∧(Let (IntKind.i64.wrap (y58.2.2.2.1+(1:Int))) (fun v74:Int=>∃ x75:(List (Int))×(List (Int))×Int×Int×(List (ByteArray×aI)),SlQ y58.1.length x75.1.length (gl aC y58.1) (gl aC x75.1) (SlQ y58.2.1.length x75.2.1.length (gl aC y58.2.1) (gl aC x75.2.1) ((y58.2.2.1=x75.2.2.1)∧(v74=x75.2.2.2.1)∧SlS aD a (((mpN (mks y58.2.2.2.2) (((at_ a (at_ y58.2.1 y58.2.2.2.1)).1).2.2.2.2.2.2.1) (List.length y58.2.2.2.2))=(List.length x75.2.2.2.2))∧(∀ i,i < (List.length x75.2.2.2.2)→(iF (mks y58.2.2.2.2) (((at_ a (at_ y58.2.1 y58.2.2.2.1)).1).2.2.2.2.2.2.1) (List.length y58.2.2.2.2)) i=(mks x75.2.2.2.2) i)∧(∀ i,i < (List.length x75.2.2.2.2)→DEqs ((hJ (mks y58.2.2.2.2) (mvs aG y58.2.2.2.2) (((at_ a (at_ y58.2.1 y58.2.2.2.1)).1).2.2.2.2.2.2.1) [.int .i64 (0:Int),.slice .ro 1 1 (cZ cO 0 (fun _=>[.int .i64 (at_ y58.2.1 y58.2.2.2.1)]))] (List.length y58.2.2.2.2)) i) ((mvs aG x75.2.2.2.2) i))∧I56 x75∧μ57 x75 < μ57 y58)))))) False))) False) False) (∃ (I86:((List (List (Int)))×(List (Int))×Int×Int×(List (ByteArray×aI)))→Prop) (μ87:((List (List (Int)))×(List (Int))×Int×Int×(List (ByteArray×aI)))→Nat),(∃ x85:(List (List (Int)))×(List (Int))×Int×Int×(List (ByteArray×aI)),SlQ 0 x85.1.length cO (gl aE x85.1) (SlQ y58.1.length x85.2.1.length (gl aC y58.1) (gl aC x85.2.1) (((y58.1.length:Int)=x85.2.2.1)∧((0:Int)=x85.2.2.2.1)∧SlS aD a (((List.length y58.2.2.2.2)=(List.length x85.2.2.2.2))∧(∀ i,i < (List.length x85.2.2.2.2)→(mks y58.2.2.2.2) i=(mks x85.2.2.2.2) i)∧(∀ i,i < (List.length x85.2.2.2.2)→DEqs ((mvs aG y58.2.2.2.2) i) ((mvs aG x85.2.2.2.2) i))∧(0=x85.1.length)∧I86 x85))))∧∀ y88:(List (List (Int)))×(List (Int))×Int×Int×(List (ByteArray×aI)),I86 y88→(Br (decide (y88.2.2.2.1 < y88.2.2.1)) (Br (decide ((0:Int)≤y88.2.2.2.1)&&decide (y88.2.2.2.1 < (y88.2.1.length:Int))) (Br (decide ((0:Int)≤(at_ y88.2.1 y88.2.2.2.1))&&decide ((at_ y88.2.1 y88.2.2.2.1) < (a.length:Int))) (Br (iN y88.2.2.2.2 (((at_ a (at_ y88.2.1 y88.2.2.2.1)).1).2.2.2.2.2.2.1)) (Br ((((at_ a (at_ y88.2.1 y88.2.2.2.1)).1).2.2.2.2.2.2.1).toList==ByteArray.empty.toList) ((y88.1.length=y88.1.length∧fW ((y88.1.length+1) * 24))∧(Let (IntKind.i64.wrap (y88.2.2.2.1+(1:Int))) (fun v97:Int=>∃ x98:(List (List (Int)))×(List (Int))×Int×Int×(List (ByteArray×aI)),SlQ (y88.1.length+1) x98.1.length (cZ (gl aE y88.1) y88.1.length (fun _=>[.slice .ro 1 1 (fun _=>[.int .i64 (at_ y88.2.1 y88.2.2.2.1)])])) (gl aE x98.1) (SlQ y88.2.1.length x98.2.1.length (gl aC y88.2.1) (gl aC x98.2.1) ((y88.2.2.1=x98.2.2.1)∧(v97=x98.2.2.2.1)∧SlS aD a (((List.length y88.2.2.2.2)=(List.length x98.2.2.2.2))∧(∀ i,i < (List.length x98.2.2.2.2)→(mks y88.2.2.2.2) i=(mks x98.2.2.2.2) i)∧(∀ i,i < (List.length x98.2.2.2.2)→DEqs ((mvs aG y88.2.2.2.2) i) ((mvs aG x98.2.2.2.2) i))∧((y88.1.length+1)=x98.1.length)∧I86 x98∧μ87 x98 < μ87 y88)))))) (Br (decide ((0:Int)≤(0:Int))&&decide ((0:Int) < (((mat y88.2.2.2.2 (((at_ a (at_ y88.2.1 y88.2.2.2.1)).1).2.2.2.2.2.2.1)).2).length:Int))) (Br ((at_ y88.2.1 y88.2.2.2.1)==(at_ ((mat y88.2.2.2.2 (((at_ a (at_ y88.2.1 y88.2.2.2.1)).1).2.2.2.2.2.2.1)).2) (0:Int))) (Br (decide ((((at_ a (at_ y88.2.1 y88.2.2.2.1)).1).2.2.2.2.2.2.2)≤((mat y88.2.2.2.2 (((at_ a (at_ y88.2.1 y88.2.2.2.1)).1).2.2.2.2.2.2.1)).1))) (f117.ent (fun c108=>(L20 c108)∧(y88.1.length=y88.1.length∧fW ((y88.1.length+1) * 24))∧(Let (IntKind.i64.wrap (y88.2.2.2.1+(1:Int))) (fun v109:Int=>∃ x110:(List (List (Int)))×(List (Int))×Int×Int×(List (ByteArray×aI)),SlQ (y88.1.length+1) x110.1.length (cZ (gl aE y88.1) y88.1.length (fun _=>[.slice .ro 1 ((d7 c108).length) (gl aC (d7 c108))])) (gl aE x110.1) (SlQ y88.2.1.length x110.2.1.length (gl aC y88.2.1) (gl aC x110.2.1) ((y88.2.2.1=x110.2.2.1)∧(v109=x110.2.2.2.1)∧SlS aD a (((List.length y88.2.2.2.2)=(List.length x110.2.2.2.2))∧(∀ i,i < (List.length x110.2.2.2.2)→(mks y88.2.2.2.2) i=(mks x110.2.2.2.2) i)∧(∀ i,i < (List.length x110.2.2.2.2)→DEqs ((mvs aG y88.2.2.2.2) i) ((mvs aG x110.2.2.2.2) i))∧((y88.1.length+1)=x110.1.length)∧I86 x110∧μ87 x110 < μ87 y88)))))) ((mat y88.2.2.2.2 (((at_ a (at_ y88.2.1 y88.2.2.2.1)).1).2.2.2.2.2.2.1)).2)) (Let (IntKind.i64.wrap (y88.2.2.2.1+(1:Int))) (fun v116:Int=>∃ x117:(List (List (Int)))×(List (Int))×Int×Int×(List (ByteArray×aI)),SlQ y88.1.length x117.1.length (gl aE y88.1) (gl aE x117.1) (SlQ y88.2.1.length x117.2.1.length (gl aC y88.2.1) (gl aC x117.2.1) ((y88.2.2.1=x117.2.2.1)∧(v116=x117.2.2.2.1)∧SlS aD a (((List.length y88.2.2.2.2)=(List.length x117.2.2.2.2))∧(∀ i,i < (List.length x117.2.2.2.2)→(mks y88.2.2.2.2) i=(mks x117.2.2.2.2) i)∧(∀ i,i < (List.length x117.2.2.2.2)→DEqs ((mvs aG y88.2.2.2.2) i) ((mvs aG x117.2.2.2.2) i))∧(y88.1.length=x117.1.length)∧I86 x117∧μ87 x117 < μ87 y88)))))) (Let (IntKind.i64.wrap (y88.2.2.2.1+(1:Int))) (fun v124:Int=>∃ x125:(List (List (Int)))×(List (Int))×Int×Int×(List (ByteArray×aI)),SlQ y88.1.length x125.1.length (gl aE y88.1) (gl aE x125.1) (SlQ y88.2.1.length x125.2.1.length (gl aC y88.2.1) (gl aC x125.2.1) ((y88.2.2.1=x125.2.2.1)∧(v124=x125.2.2.2.1)∧SlS aD a (((List.length y88.2.2.2.2)=(List.length x125.2.2.2.2))∧(∀ i,i < (List.length x125.2.2.2.2)→(mks y88.2.2.2.2) i=(mks x125.2.2.2.2) i)∧(∀ i,i < (List.length x125.2.2.2.2)→DEqs ((mvs aG y88.2.2.2.2) i) ((mvs aG x125.2.2.2.2) i))∧(y88.1.length=x125.1.length)∧I86 x125∧μ87 x125 < μ87 y88)))))) False)) (Br ((((at_ a (at_ y88.2.1 y88.2.2.2.1)).1).2.2.2.2.2.2.1).toList==ByteArray.empty.toList) ((y88.1.length=y88.1.length∧fW ((y88.1.length+1) * 24))∧(Let (IntKind.i64.wrap (y88.2.2.2.1+(1:Int))) (fun v137:Int=>∃ x138:(List (List (Int)))×(List (Int))×Int×Int×(List (ByteArray×aI)),SlQ (y88.1.length+1) x138.1.length (cZ (gl aE y88.1) y88.1.length (fun _=>[.slice .ro 1 1 (fun _=>[.int .i64 (at_ y88.2.1 y88.2.2.2.1)])])) (gl aE x138.1) (SlQ y88.2.1.length x138.2.1.length (gl aC y88.2.1) (gl aC x138.2.1) ((y88.2.2.1=x138.2.2.1)∧(v137=x138.2.2.2.1)∧SlS aD a (((List.length y88.2.2.2.2)=(List.length x138.2.2.2.2))∧(∀ i,i < (List.length x138.2.2.2.2)→(mks y88.2.2.2.2) i=(mks x138.2.2.2.2) i)∧(∀ i,i < (List.length x138.2.2.2.2)→DEqs ((mvs aG y88.2.2.2.2) i) ((mvs aG x138.2.2.2.2) i))∧((y88.1.length+1)=x138.1.length)∧I86 x138∧μ87 x138 < μ87 y88)))))) (False))) False) False) ((y88.1.length=y88.1.length)∧SlQ y88.1.length ((bL a).length) (gl aE y88.1) (gl aE (bL a)) (True)))))))))
def f93.vc (a:List (aA)):Prop:=(∃ (I2:(Int×(List (Int))×(List (ByteArray×aI)))→Prop) (μ3:(Int×(List (Int))×(List (ByteArray×aI)))→Nat),I2 ((0:Int),[],[])∧∀ y4:Int×(List (Int))×(List (ByteArray×aI)),I2 y4→((y4.1 < (a.length:Int)→((0:Int)≤y4.1∧y4.1 < (a.length:Int)∧((iN y4.2.2 (((at_ a y4.1).1).2.2.2.2.2.2.1)=true→(-9223372036854775808≤(((mat y4.2.2 (((at_ a y4.1).1).2.2.2.2.2.2.1)).1)+(1:Int))∧(((mat y4.2.2 (((at_ a y4.1).1).2.2.2.2.2.2.1)).1)+(1:Int))≤9223372036854775807∧(((dC (at_ a y4.1))=true→((List.length y4.2.1)+1≤1073741824∧(-9223372036854775808≤(y4.1+(1:Int))∧(y4.1+(1:Int))≤9223372036854775807∧(I2 ((y4.1+(1:Int)),y4.2.1++([y4.1]),dR y4.2.2 (((at_ a y4.1).1).2.2.2.2.2.2.1) ((((mat y4.2.2 (((at_ a y4.1).1).2.2.2.2.2.2.1)).1)+(1:Int)),(mat y4.2.2 (((at_ a y4.1).1).2.2.2.2.2.2.1)).2))∧μ3 ((y4.1+(1:Int)),y4.2.1++([y4.1]),dR y4.2.2 (((at_ a y4.1).1).2.2.2.2.2.2.1) ((((mat y4.2.2 (((at_ a y4.1).1).2.2.2.2.2.2.1)).1)+(1:Int)),(mat y4.2.2 (((at_ a y4.1).1).2.2.2.2.2.2.1)).2)) < μ3 y4))))∧(¬((dC (at_ a y4.1))=true)→(-9223372036854775808≤(y4.1+(1:Int))∧(y4.1+(1:Int))≤9223372036854775807∧(I2 ((y4.1+(1:Int)),y4.2.1,dR y4.2.2 (((at_ a y4.1).1).2.2.2.2.2.2.1) ((((mat y4.2.2 (((at_ a y4.1).1).2.2.2.2.2.2.1)).1)+(1:Int)),(mat y4.2.2 (((at_ a y4.1).1).2.2.2.2.2.2.1)).2))∧μ3 ((y4.1+(1:Int)),y4.2.1,dR y4.2.2 (((at_ a y4.1).1).2.2.2.2.2.2.1) ((((mat y4.2.2 (((at_ a y4.1).1).2.2.2.2.2.2.1)).1)+(1:Int)),(mat y4.2.2 (((at_ a y4.1).1).2.2.2.2.2.2.1)).2)) < μ3 y4))))))∧(¬(iN y4.2.2 (((at_ a y4.1).1).2.2.2.2.2.2.1)=true)→(((dC (at_ a y4.1))=true→((List.length y4.2.1)+1≤1073741824∧(-9223372036854775808≤(y4.1+(1:Int))∧(y4.1+(1:Int))≤9223372036854775807∧(I2 ((y4.1+(1:Int)),y4.2.1++([y4.1]),dR y4.2.2 (((at_ a y4.1).1).2.2.2.2.2.2.1) ((1:Int),[]))∧μ3 ((y4.1+(1:Int)),y4.2.1++([y4.1]),dR y4.2.2 (((at_ a y4.1).1).2.2.2.2.2.2.1) ((1:Int),[])) < μ3 y4))))∧(¬((dC (at_ a y4.1))=true)→(-9223372036854775808≤(y4.1+(1:Int))∧(y4.1+(1:Int))≤9223372036854775807∧(I2 ((y4.1+(1:Int)),y4.2.1,dR y4.2.2 (((at_ a y4.1).1).2.2.2.2.2.2.1) ((1:Int),[]))∧μ3 ((y4.1+(1:Int)),y4.2.1,dR y4.2.2 (((at_ a y4.1).1).2.2.2.2.2.2.1) ((1:Int),[])) < μ3 y4))))))))∧(¬(y4.1 < (a.length:Int))→(nA (y4.2.1,a)∧((List.length (fK (y4.2.1,a)))=(List.length y4.2.1)∧(∃ (I56:((List (Int))×(List (Int))×Int×Int×(List (ByteArray×aI)))→Prop) (μ57:((List (Int))×(List (Int))×Int×Int×(List (ByteArray×aI)))→Nat),I56 ((fK (y4.2.1,a)),(fK (y4.2.1,a)),(List.length (fK (y4.2.1,a)):Int),(0:Int),y4.2.2)∧∀ y58:(List (Int))×(List (Int))×Int×Int×(List (ByteArray×aI)),I56 y58→((y58.2.2.2.1 < y58.2.2.1→((0:Int)≤y58.2.2.2.1∧y58.2.2.2.1 < (y58.2.1.length:Int)∧((0:Int)≤(at_ y58.2.1 y58.2.2.2.1)∧(at_ y58.2.1 y58.2.2.2.1) < (a.length:Int)∧((iN y58.2.2.2.2 (((at_ a (at_ y58.2.1 y58.2.2.2.1)).1).2.2.2.2.2.2.1)=true→((((mat y58.2.2.2.2 (((at_ a (at_ y58.2.1 y58.2.2.2.1)).1).2.2.2.2.2.2.1)).2).length)+1≤1073741824∧((0:Int)≤(at_ y58.2.1 y58.2.2.2.1)∧(at_ y58.2.1 y58.2.2.2.1) < (a.length:Int)∧(-9223372036854775808≤(y58.2.2.2.1+(1:Int))∧(y58.2.2.2.1+(1:Int))≤9223372036854775807∧(I56 (y58.1,y58.2.1,y58.2.2.1,(y58.2.2.2.1+(1:Int)),dR y58.2.2.2.2 (((at_ a (at_ y58.2.1 y58.2.2.2.1)).1).2.2.2.2.2.2.1) ((mat y58.2.2.2.2 (((at_ a (at_ y58.2.1 y58.2.2.2.1)).1).2.2.2.2.2.2.1)).1,((mat y58.2.2.2.2 (((at_ a (at_ y58.2.1 y58.2.2.2.1)).1).2.2.2.2.2.2.1)).2)++([at_ y58.2.1 y58.2.2.2.1])))∧μ57 (y58.1,y58.2.1,y58.2.2.1,(y58.2.2.2.1+(1:Int)),dR y58.2.2.2.2 (((at_ a (at_ y58.2.1 y58.2.2.2.1)).1).2.2.2.2.2.2.1) ((mat y58.2.2.2.2 (((at_ a (at_ y58.2.1 y58.2.2.2.1)).1).2.2.2.2.2.2.1)).1,((mat y58.2.2.2.2 (((at_ a (at_ y58.2.1 y58.2.2.2.1)).1).2.2.2.2.2.2.1)).2)++([at_ y58.2.1 y58.2.2.2.1]))) < μ57 y58)))))∧(¬(iN y58.2.2.2.2 (((at_ a (at_ y58.2.1 y58.2.2.2.1)).1).2.2.2.2.2.2.1)=true)→(0+1≤1073741824∧((0:Int)≤(at_ y58.2.1 y58.2.2.2.1)∧(at_ y58.2.1 y58.2.2.2.1) < (a.length:Int)∧(-9223372036854775808≤(y58.2.2.2.1+(1:Int))∧(y58.2.2.2.1+(1:Int))≤9223372036854775807∧(I56 (y58.1,y58.2.1,y58.2.2.1,(y58.2.2.2.1+(1:Int)),dR y58.2.2.2.2 (((at_ a (at_ y58.2.1 y58.2.2.2.1)).1).2.2.2.2.2.2.1) ((0:Int),([])++([at_ y58.2.1 y58.2.2.2.1])))∧μ57 (y58.1,y58.2.1,y58.2.2.1,(y58.2.2.2.1+(1:Int)),dR y58.2.2.2.2 (((at_ a (at_ y58.2.1 y58.2.2.2.1)).1).2.2.2.2.2.2.1) ((0:Int),([])++([at_ y58.2.1 y58.2.2.2.1]))) < μ57 y58)))))))))∧(¬(y58.2.2.2.1 < y58.2.2.1)→(∃ (I86:((List (List (Int)))×(List (Int))×Int×Int×(List (ByteArray×aI)))→Prop) (μ87:((List (List (Int)))×(List (Int))×Int×Int×(List (ByteArray×aI)))→Nat),I86 ([],y58.1,(y58.1.length:Int),(0:Int),y58.2.2.2.2)∧∀ y88:(List (List (Int)))×(List (Int))×Int×Int×(List (ByteArray×aI)),I86 y88→((y88.2.2.2.1 < y88.2.2.1→((0:Int)≤y88.2.2.2.1∧y88.2.2.2.1 < (y88.2.1.length:Int)∧((0:Int)≤(at_ y88.2.1 y88.2.2.2.1)∧(at_ y88.2.1 y88.2.2.2.1) < (a.length:Int)∧((iN y88.2.2.2.2 (((at_ a (at_ y88.2.1 y88.2.2.2.1)).1).2.2.2.2.2.2.1)=true→(((((at_ a (at_ y88.2.1 y88.2.2.2.1)).1).2.2.2.2.2.2.1)=ByteArray.empty→(y88.1.length+1≤1073741824∧(-9223372036854775808≤(y88.2.2.2.1+(1:Int))∧(y88.2.2.2.1+(1:Int))≤9223372036854775807∧(I86 (y88.1++([[at_ y88.2.1 y88.2.2.2.1]]),y88.2.1,y88.2.2.1,(y88.2.2.2.1+(1:Int)),y88.2.2.2.2)∧μ87 (y88.1++([[at_ y88.2.1 y88.2.2.2.1]]),y88.2.1,y88.2.2.1,(y88.2.2.2.1+(1:Int)),y88.2.2.2.2) < μ87 y88))))∧(¬((((at_ a (at_ y88.2.1 y88.2.2.2.1)).1).2.2.2.2.2.2.1)=ByteArray.empty)→((0:Int) < (((mat y88.2.2.2.2 (((at_ a (at_ y88.2.1 y88.2.2.2.1)).1).2.2.2.2.2.2.1)).2).length:Int)∧(((at_ y88.2.1 y88.2.2.2.1)=(at_ ((mat y88.2.2.2.2 (((at_ a (at_ y88.2.1 y88.2.2.2.1)).1).2.2.2.2.2.2.1)).2) (0:Int))→(((((at_ a (at_ y88.2.1 y88.2.2.2.1)).1).2.2.2.2.2.2.2)≤((mat y88.2.2.2.2 (((at_ a (at_ y88.2.1 y88.2.2.2.1)).1).2.2.2.2.2.2.1)).1)→(L20 ((mat y88.2.2.2.2 (((at_ a (at_ y88.2.1 y88.2.2.2.1)).1).2.2.2.2.2.2.1)).2)∧(y88.1.length+1≤1073741824∧(-9223372036854775808≤(y88.2.2.2.1+(1:Int))∧(y88.2.2.2.1+(1:Int))≤9223372036854775807∧(I86 (y88.1++([(d7 ((mat y88.2.2.2.2 (((at_ a (at_ y88.2.1 y88.2.2.2.1)).1).2.2.2.2.2.2.1)).2))]),y88.2.1,y88.2.2.1,(y88.2.2.2.1+(1:Int)),y88.2.2.2.2)∧μ87 (y88.1++([(d7 ((mat y88.2.2.2.2 (((at_ a (at_ y88.2.1 y88.2.2.2.1)).1).2.2.2.2.2.2.1)).2))]),y88.2.1,y88.2.2.1,(y88.2.2.2.1+(1:Int)),y88.2.2.2.2) < μ87 y88)))))∧(¬((((at_ a (at_ y88.2.1 y88.2.2.2.1)).1).2.2.2.2.2.2.2)≤((mat y88.2.2.2.2 (((at_ a (at_ y88.2.1 y88.2.2.2.1)).1).2.2.2.2.2.2.1)).1))→(-9223372036854775808≤(y88.2.2.2.1+(1:Int))∧(y88.2.2.2.1+(1:Int))≤9223372036854775807∧(I86 (y88.1,y88.2.1,y88.2.2.1,(y88.2.2.2.1+(1:Int)),y88.2.2.2.2)∧μ87 (y88.1,y88.2.1,y88.2.2.1,(y88.2.2.2.1+(1:Int)),y88.2.2.2.2) < μ87 y88)))))∧(¬((at_ y88.2.1 y88.2.2.2.1)=(at_ ((mat y88.2.2.2.2 (((at_ a (at_ y88.2.1 y88.2.2.2.1)).1).2.2.2.2.2.2.1)).2) (0:Int)))→(-9223372036854775808≤(y88.2.2.2.1+(1:Int))∧(y88.2.2.2.1+(1:Int))≤9223372036854775807∧(I86 (y88.1,y88.2.1,y88.2.2.1,(y88.2.2.2.1+(1:Int)),y88.2.2.2.2)∧μ87 (y88.1,y88.2.1,y88.2.2.1,(y88.2.2.2.1+(1:Int)),y88.2.2.2.2) < μ87 y88))))))))∧(¬(iN y88.2.2.2.2 (((at_ a (at_ y88.2.1 y88.2.2.2.1)).1).2.2.2.2.2.2.1)=true)→(((((at_ a (at_ y88.2.1 y88.2.2.2.1)).1).2.2.2.2.2.2.1)=ByteArray.empty→(y88.1.length+1≤1073741824∧(-9223372036854775808≤(y88.2.2.2.1+(1:Int))∧(y88.2.2.2.1+(1:Int))≤9223372036854775807∧(I86 (y88.1++([[at_ y88.2.1 y88.2.2.2.1]]),y88.2.1,y88.2.2.1,(y88.2.2.2.1+(1:Int)),y88.2.2.2.2)∧μ87 (y88.1++([[at_ y88.2.1 y88.2.2.2.1]]),y88.2.1,y88.2.2.1,(y88.2.2.2.1+(1:Int)),y88.2.2.2.2) < μ87 y88))))∧(¬((((at_ a (at_ y88.2.1 y88.2.2.2.1)).1).2.2.2.2.2.2.1)=ByteArray.empty)→False)))))))∧(¬(y88.2.2.2.1 < y88.2.2.1)→(y88.1=bL a))))))))))))
set_option maxRecDepth 100000 in
set_option maxHeartbeats 2000000 in
theorem f93.of (a:List (aA)) (h:f93.vc a):f93.tree a:=Exists.elim h (fun I2 h163_=>Exists.elim h163_ (fun μ3 h163=>⟨I2,μ3,⟨((0:Int),[],[]),⟨(bM cO (Rds.nil (enc:=aC))),SlS.mk  (⟨rfl,⟨rfl,SlS.mk  (slQ (Rds.nil (enc:=aC)) (mpK Mds.nil (h163.1)))⟩⟩)⟩⟩,fun y4 h165=>br (h163.2 y4 h165) Cnd.dec (fun h5 k161=>chk k161.2.2 Cnd.ix ⟨k161.1,k161.2.1⟩ (fun h7 k52=>br k52 Cnd.b (fun h8 k50=>wrapK.i64 k50 (fun h29 h30 k31=>⟨⟨rfl,⟨rfl,trivial⟩⟩,(f33.ei ⟨trivial,br k31 Cnd.b (fun h12 k26=>⟨⟨rfl,cX k26.1 (by decide)⟩,wrapK.i64 k26.2 (fun h17 h18 k19=>⟨((y4.1+(1:Int)),y4.2.1++([y4.1]),dR y4.2.2 (((at_ a y4.1).1).2.2.2.2.2.2.1) ((((mat y4.2.2 (((at_ a y4.1).1).2.2.2.2.2.2.1)).1)+(1:Int)),(mat y4.2.2 (((at_ a y4.1).1).2.2.2.2.2.2.1)).2)),⟨(bM (cZ (gl aC y4.2.1) (List.length y4.2.1) (fun _=>[.int .i64 y4.1])) (Rds.app (enc:=aC) (Rds.self (enc:=aC)) (Rds.one (enc:=aC) (DEqs.refl _)))),SlS.mk  (⟨rfl,⟨rfl,SlS.mk  (slQ (Rds.app (enc:=aC) (Rds.self (enc:=aC)) (Rds.one (enc:=aC) (DEqs.refl _))) (mpK (Mds.set (enc:=aG) (Mds.self (enc:=aG)) (DEqs.refl _)) (k19)))⟩⟩)⟩⟩)⟩) (fun h13 k27=>wrapK.i64 k27 (fun h23 h24 k25=>⟨((y4.1+(1:Int)),y4.2.1,dR y4.2.2 (((at_ a y4.1).1).2.2.2.2.2.2.1) ((((mat y4.2.2 (((at_ a y4.1).1).2.2.2.2.2.2.1)).1)+(1:Int)),(mat y4.2.2 (((at_ a y4.1).1).2.2.2.2.2.2.1)).2)),⟨(bM (gl aC y4.2.1) (Rds.self (enc:=aC))),SlS.mk  (⟨rfl,⟨rfl,SlS.mk  (slQ (Rds.self (enc:=aC)) (mpK (Mds.set (enc:=aG) (Mds.self (enc:=aG)) (DEqs.refl _)) (k25)))⟩⟩)⟩⟩))⟩)⟩)) (fun h9 k51=>⟨⟨rfl,trivial⟩,(f33.ei ⟨trivial,br k51 Cnd.b (fun h33 k47=>⟨⟨rfl,cX k47.1 (by decide)⟩,wrapK.i64 k47.2 (fun h38 h39 k40=>⟨((y4.1+(1:Int)),y4.2.1++([y4.1]),dR y4.2.2 (((at_ a y4.1).1).2.2.2.2.2.2.1) ((1:Int),[])),⟨(bM (cZ (gl aC y4.2.1) (List.length y4.2.1) (fun _=>[.int .i64 y4.1])) (Rds.app (enc:=aC) (Rds.self (enc:=aC)) (Rds.one (enc:=aC) (DEqs.refl _)))),SlS.mk  (⟨rfl,⟨rfl,SlS.mk  (slQ (Rds.app (enc:=aC) (Rds.self (enc:=aC)) (Rds.one (enc:=aC) (DEqs.refl _))) (mpK (Mds.set (enc:=aG) (Mds.self (enc:=aG)) (DEqs.cons (DEq.refl _) (DEqs.cons ((Rds.nil (enc:=aC))).deq DEqs.nil))) (k40)))⟩⟩)⟩⟩)⟩) (fun h34 k48=>wrapK.i64 k48 (fun h44 h45 k46=>⟨((y4.1+(1:Int)),y4.2.1,dR y4.2.2 (((at_ a y4.1).1).2.2.2.2.2.2.1) ((1:Int),[])),⟨(bM (gl aC y4.2.1) (Rds.self (enc:=aC))),SlS.mk  (⟨rfl,⟨rfl,SlS.mk  (slQ (Rds.self (enc:=aC)) (mpK (Mds.set (enc:=aG) (Mds.self (enc:=aG)) (DEqs.cons (DEq.refl _) (DEqs.cons ((Rds.nil (enc:=aC))).deq DEqs.nil))) (k46)))⟩⟩)⟩⟩))⟩)⟩))) (fun h6 k162=>⟨rfl,⟨(y4.2.1,a),⟨(bM (gl aC y4.2.1) (Rds.self (enc:=aC))),⟨(DEqs.refl _),slQ (Rds.self (enc:=aC)) (⟨k162.1,rL k162.2 (fun (h54:(List.length (fK (y4.2.1,a)))=(List.length y4.2.1)) hk=>⟨h54,Exists.elim hk (fun I56 h157_=>Exists.elim h157_ (fun μ57 h157=>⟨I56,μ57,⟨((fK (y4.2.1,a)),(fK (y4.2.1,a)),(List.length (fK (y4.2.1,a)):Int),(0:Int),y4.2.2),slQ (Rds.self (enc:=aC)) (slQ (Rds.self (enc:=aC)) (⟨rfl,⟨rfl,SlS.mk  (mpK (Mds.self (enc:=aG)) (h157.1))⟩⟩))⟩,fun y58 h159=>br (h157.2 y58 h159) Cnd.dec (fun h59 k155=>chk k155.2.2 Cnd.ix ⟨k155.1,k155.2.1⟩ (fun h61 k84=>chk k84.2.2 Cnd.ix ⟨k84.1,k84.2.1⟩ (fun h62 k83=>br k83 Cnd.b (fun h63 k81=>⟨⟨rfl,(cX k81.1 (by decide))⟩,chk k81.2.2.2 Cnd.ix ⟨k81.2.1,k81.2.2.1⟩ (fun h65 k72=>⟨⟨rfl,⟨rfl,trivial⟩⟩,wrapK.i64 k72 (fun h69 h70 k71=>⟨(y58.1,y58.2.1,y58.2.2.1,(y58.2.2.2.1+(1:Int)),dR y58.2.2.2.2 (((at_ a (at_ y58.2.1 y58.2.2.2.1)).1).2.2.2.2.2.2.1) ((mat y58.2.2.2.2 (((at_ a (at_ y58.2.1 y58.2.2.2.1)).1).2.2.2.2.2.2.1)).1,((mat y58.2.2.2.2 (((at_ a (at_ y58.2.1 y58.2.2.2.1)).1).2.2.2.2.2.2.1)).2)++([at_ y58.2.1 y58.2.2.2.1]))),slQ (Rds.self (enc:=aC)) (slQ (Rds.self (enc:=aC)) (⟨rfl,⟨rfl,SlS.mk  (mpK (Mds.set (enc:=aG) (Mds.self (enc:=aG)) (DEqs.cons (DEq.refl _) (DEqs.cons ((Rds.app (enc:=aC) (Rds.self (enc:=aC)) (Rds.one (enc:=aC) (DEqs.refl _)))).deq DEqs.nil))) (k71))⟩⟩))⟩)⟩)⟩) (fun h64 k82=>⟨(cX k82.1 (by decide)),chk k82.2.2.2 Cnd.ix ⟨k82.2.1,k82.2.2.1⟩ (fun h73 k80=>⟨⟨rfl,⟨rfl,trivial⟩⟩,wrapK.i64 k80 (fun h77 h78 k79=>⟨(y58.1,y58.2.1,y58.2.2.1,(y58.2.2.2.1+(1:Int)),dR y58.2.2.2.2 (((at_ a (at_ y58.2.1 y58.2.2.2.1)).1).2.2.2.2.2.2.1) ((0:Int),([])++([at_ y58.2.1 y58.2.2.2.1]))),slQ (Rds.self (enc:=aC)) (slQ (Rds.self (enc:=aC)) (⟨rfl,⟨rfl,SlS.mk  (mpK (Mds.set (enc:=aG) (Mds.self (enc:=aG)) (DEqs.cons (DEq.refl _) (DEqs.cons ((Rds.app (enc:=aC) (Rds.nil (enc:=aC)) (Rds.one (enc:=aC) (DEqs.refl _)))).deq DEqs.nil))) (k79))⟩⟩))⟩)⟩)⟩)))) (fun h60 k156=>Exists.elim k156 (fun I86 h152_=>Exists.elim h152_ (fun μ87 h152=>⟨I86,μ87,⟨([],y58.1,(y58.1.length:Int),(0:Int),y58.2.2.2.2),slQ (Rds.nil (enc:=aE)) (slQ (Rds.self (enc:=aC)) (⟨rfl,⟨rfl,SlS.mk  (mpK (Mds.self (enc:=aG)) (⟨(bM cO (Rds.nil (enc:=aE))),h152.1⟩))⟩⟩))⟩,fun y88 h154=>br (h152.2 y88 h154) Cnd.dec (fun h89 k150=>chk k150.2.2 Cnd.ix ⟨k150.1,k150.2.1⟩ (fun h91 k148=>chk k148.2.2 Cnd.ix ⟨k148.1,k148.2.1⟩ (fun h92 k147=>br k147 Cnd.b (fun h93 k145=>br k145 Cnd.seq (fun h95 k133=>⟨⟨rfl,(cX k133.1 (by decide))⟩,wrapK.i64 k133.2 (fun h100 h101 k102=>⟨(y88.1++([[at_ y88.2.1 y88.2.2.2.1]]),y88.2.1,y88.2.2.1,(y88.2.2.2.1+(1:Int)),y88.2.2.2.2),slQ (Rds.app (enc:=aE) (Rds.self (enc:=aE)) (Rds.one (enc:=aE) (DEqs.cons ((Rds.one (enc:=aC) (DEqs.refl _))).deq DEqs.nil))) (slQ (Rds.self (enc:=aC)) (⟨rfl,⟨rfl,SlS.mk  (mpK (Mds.self (enc:=aG)) (⟨(bM (cZ (gl aE y88.1) y88.1.length (fun _=>[.slice .ro 1 1 (fun _=>[.int .i64 (at_ y88.2.1 y88.2.2.2.1)])])) (Rds.app (enc:=aE) (Rds.self (enc:=aE)) (Rds.one (enc:=aE) (DEqs.cons ((Rds.one (enc:=aC) (DEqs.refl _))).deq DEqs.nil)))),k102⟩))⟩⟩))⟩)⟩) (fun h96 k134=>chk k134.2 Cnd.ix ⟨(by decide),k134.1⟩ (fun h103 k132=>br k132 Cnd.eq (fun h104 k130=>br k130 Cnd.dec (fun h106 k122=>(f117.ei ⟨k122.1,⟨⟨rfl,(cX k122.2.1 (by decide))⟩,wrapK.i64 k122.2.2 (fun h112 h113 k114=>⟨(y88.1++([(d7 ((mat y88.2.2.2.2 (((at_ a (at_ y88.2.1 y88.2.2.2.1)).1).2.2.2.2.2.2.1)).2))]),y88.2.1,y88.2.2.1,(y88.2.2.2.1+(1:Int)),y88.2.2.2.2),slQ (Rds.app (enc:=aE) (Rds.self (enc:=aE)) (Rds.one (enc:=aE) (DEqs.refl _))) (slQ (Rds.self (enc:=aC)) (⟨rfl,⟨rfl,SlS.mk  (mpK (Mds.self (enc:=aG)) (⟨(bM (cZ (gl aE y88.1) y88.1.length (fun _=>[.slice .ro 1 ((d7 ((mat y88.2.2.2.2 (((at_ a (at_ y88.2.1 y88.2.2.2.1)).1).2.2.2.2.2.2.1)).2)).length) (gl aC (d7 ((mat y88.2.2.2.2 (((at_ a (at_ y88.2.1 y88.2.2.2.1)).1).2.2.2.2.2.2.1)).2)))])) (Rds.app (enc:=aE) (Rds.self (enc:=aE)) (Rds.one (enc:=aE) (DEqs.refl _)))),k114⟩))⟩⟩))⟩)⟩⟩)) (fun h107 k123=>wrapK.i64 k123 (fun h119 h120 k121=>⟨(y88.1,y88.2.1,y88.2.2.1,(y88.2.2.2.1+(1:Int)),y88.2.2.2.2),slQ (Rds.self (enc:=aE)) (slQ (Rds.self (enc:=aC)) (⟨rfl,⟨rfl,SlS.mk  (mpK (Mds.self (enc:=aG)) (⟨(bM (gl aE y88.1) (Rds.self (enc:=aE))),k121⟩))⟩⟩))⟩))) (fun h105 k131=>wrapK.i64 k131 (fun h127 h128 k129=>⟨(y88.1,y88.2.1,y88.2.2.1,(y88.2.2.2.1+(1:Int)),y88.2.2.2.2),slQ (Rds.self (enc:=aE)) (slQ (Rds.self (enc:=aC)) (⟨rfl,⟨rfl,SlS.mk  (mpK (Mds.self (enc:=aG)) (⟨(bM (gl aE y88.1) (Rds.self (enc:=aE))),k129⟩))⟩⟩))⟩))))) (fun h94 k146=>br k146 Cnd.seq (fun h135 k143=>⟨⟨rfl,(cX k143.1 (by decide))⟩,wrapK.i64 k143.2 (fun h140 h141 k142=>⟨(y88.1++([[at_ y88.2.1 y88.2.2.2.1]]),y88.2.1,y88.2.2.1,(y88.2.2.2.1+(1:Int)),y88.2.2.2.2),slQ (Rds.app (enc:=aE) (Rds.self (enc:=aE)) (Rds.one (enc:=aE) (DEqs.cons ((Rds.one (enc:=aC) (DEqs.refl _))).deq DEqs.nil))) (slQ (Rds.self (enc:=aC)) (⟨rfl,⟨rfl,SlS.mk  (mpK (Mds.self (enc:=aG)) (⟨(bM (cZ (gl aE y88.1) y88.1.length (fun _=>[.slice .ro 1 1 (fun _=>[.int .i64 (at_ y88.2.1 y88.2.2.2.1)])])) (Rds.app (enc:=aE) (Rds.self (enc:=aE)) (Rds.one (enc:=aE) (DEqs.cons ((Rds.one (enc:=aC) (DEqs.refl _))).deq DEqs.nil)))),k142⟩))⟩⟩))⟩)⟩) (fun h136 k144=>k144))))) (fun h90 k151=>⟨rfl,slQ (Rds.to (Rds.self (enc:=aE)) k151) (trivial)⟩)⟩)))⟩))⟩)⟩)⟩⟩⟩⟩)⟩))
theorem f93.eq (a:List (aA)):(f93.af a).gives f93.env (f93.args a) (f93.blks a) (f93.res a) (f93.blks' a)=f93.tree a:=by kernel_rfl
end Go.Abs

-- interregnum/interregnumref14.Same
namespace Go.Abs
open Go
def f94.ent (K:((List (List (Int)))×(List (List (Int))))→Prop) (t:(List (List (Int)))×(List (List (Int)))):Prop:=∃ c:(List (List (Int)))×(List (List (Int))),SlQ t.1.length c.1.length (gl aE t.1) (gl aE c.1) (SlQ t.2.length c.2.length (gl aE t.2) (gl aE c.2) (K c))
theorem f94.ei {K:((List (List (Int)))×(List (List (Int))))→Prop} {t:(List (List (Int)))×(List (List (Int)))} (h:K t):f94.ent K t:=⟨t,slQ (Rds.self (enc:=aE)) (slQ (Rds.self (enc:=aE)) (h))⟩
def f94.args (a:(List (List (Int)))×(List (List (Int)))):List D:=[.slice .ro 1 a.1.length (gl aE a.1),.slice .ro 1 a.2.length (gl aE a.2)]
def f94.blks (a:(List (List (Int)))×(List (List (Int)))):List (List D):=[]
def f94.res (a:(List (List (Int)))×(List (List (Int)))):List D:=[.bool (j2 a)]
def f94.blks' (a:(List (List (Int)))×(List (List (Int)))):List (List D):=[]
def f94.C:aU:=FnC f94.args f94.blks (fun a=>nH a) f94.res f94.blks'
end Go.Abs

/- interregnum/interregnumref14.Same -/
namespace Go.Abs
open Go
set_option linter.unusedVariables false
def f94.S0 (a:(List (List (Int)))×(List (List (Int)))) (x:Int):Tm:=⟨[.slice .ro 1 a.1.length (gl aE a.1),.slice .ro 1 a.2.length (gl aE a.2),.dead,.dead,.dead,.dead,.dead,.dead,.dead,.dead,.dead,.dead,.dead,.int .i64 (a.1.length:Int),.int .i64 x,.dead,.dead,.dead,.dead,.dead,.dead,.dead,.dead,.dead,.dead,.dead,.dead,.dead,.dead,.dead,.dead,.dead,.dead,.dead,.dead,.dead,.dead,.dead,.dead,.dead,.dead,.dead,.dead,.dead,.dead,.dead,.dead,.dead,.dead,.dead,.dead,.dead,.dead],[],[]⟩
def f94.S1 (a:(List (List (Int)))×(List (List (Int)))) (x:Int×Int×Int×Int):Tm:=⟨[.slice .ro 1 a.1.length (gl aE a.1),.slice .ro 1 a.2.length (gl aE a.2),.dead,.dead,.dead,.int .i64 x.1,.dead,.dead,.dead,.dead,.dead,.dead,.dead,.int .i64 (a.1.length:Int),.int .i64 x.2.1,.dead,.dead,.dead,.dead,.dead,.dead,.dead,.dead,.dead,.dead,.dead,.dead,.dead,.dead,.dead,.dead,.dead,.int .i64 x.2.2.1,.int .i64 x.2.2.2,.dead,.dead,.dead,.dead,.dead,.dead,.dead,.dead,.dead,.dead,.dead,.dead,.dead,.dead,.dead,.dead,.dead,.dead,.dead],[],[]⟩
def f94.kills (a:(List (List (Int)))×(List (List (Int)))):List fU:=[.tell Int (f94.S0 a),
 .tell (Int×Int×Int×Int) (f94.S1 a)]
def f94.cuts (a:(List (List (Int)))×(List (List (Int)))):List (Nat×Σ β:Type,β→Tm):=[]
def f94.af (a:(List (List (Int)))×(List (List (Int)))):AF:=AF.mk (.seq (.region [⟨(some 4),0,.move,[.c (.bool false)],none⟩])
 (.seq (.seq (.region [oT 7 1 .move [0],
 oT 8 2 (.len false) [7],
 oT 9 3 .move [1],
 oT 10 4 (.len false) [9],
 oT 11 5 (.bin .neq) [8,10]])
 (.cond (.t 11) (.seq (.region [⟨(some 4),6,.move,[.c (.bool false)],none⟩])
 (.ret)) (.skip)))
 (.seq (.seq (.region [oT 12 7 .move [0],
 oT 13 8 (.len false) [12],
 ⟨(some 14),9,.move,[.c (.int .i64 (0))],none⟩])
 (.block 0 (.loopT Int (f94.S0 a) 10 54 (.seq (.region [oT 15 10 (.bin .lss) [14,13]])
 (.seq (.cond (.t 15) (.skip) (.exit 0))
 (.seq (.block 1 (.seq (.region [oT 16 11 .move [14],
 oT 5 12 .move [16]])
 (.seq (.seq (.region [oT 17 13 .move [0],
 oT 18 14 .move [5],
 oT 19 15 (.indexAddr 1 none) [17,18],
 oT 20 16 (.load false 1) [19],
 oT 21 17 (.len false) [20],
 oT 22 18 .move [1],
 oT 23 19 .move [5],
 oT 24 20 (.indexAddr 1 none) [22,23],
 oT 25 21 (.load false 1) [24],
 oT 26 22 (.len false) [25],
 oT 27 23 (.bin .neq) [21,26]])
 (.cond (.t 27) (.seq (.region [⟨(some 4),24,.move,[.c (.bool false)],none⟩])
 (.ret)) (.skip)))
 (.seq (.region [oT 28 25 .move [0],
 oT 29 26 .move [5],
 oT 30 27 (.indexAddr 1 none) [28,29],
 oT 31 28 (.load false 1) [30],
 oT 32 29 (.len false) [31],
 ⟨(some 33),30,.move,[.c (.int .i64 (0))],none⟩])
 (.block 2 (.loopT (Int×Int×Int×Int) (f94.S1 a) 31 52 (.seq (.region [oT 34 31 (.bin .lss) [33,32]])
 (.seq (.cond (.t 34) (.skip) (.exit 2))
 (.seq (.block 3 (.seq (.region [oT 35 32 .move [33],
 oT 6 33 .move [35]])
 (.seq (.region [oT 36 34 .move [0],
 oT 37 35 .move [5],
 oT 38 36 (.indexAddr 1 none) [36,37],
 oT 39 37 (.load false 1) [38],
 oT 40 38 .move [6],
 oT 41 39 (.indexAddr 1 none) [39,40],
 oT 42 40 (.load false 1) [41],
 oT 43 41 .move [1],
 oT 44 42 .move [5],
 oT 45 43 (.indexAddr 1 none) [43,44],
 oT 46 44 (.load false 1) [45],
 oT 47 45 .move [6],
 oT 48 46 (.indexAddr 1 none) [46,47],
 oT 49 47 (.load false 1) [48],
 oT 50 48 (.bin .neq) [42,49]])
 (.cond (.t 50) (.seq (.region [⟨(some 4),49,.move,[.c (.bool false)],none⟩])
 (.ret)) (.skip)))))
 (.region [⟨(some 51),50,(.bin .add),[.t 33,.c (.int .i64 (1))],none⟩,
 oT 33 51 .move [51]]))))))))))
 (.region [⟨(some 52),52,(.bin .add),[.t 14,.c (.int .i64 (1))],none⟩,
 oT 14 53 .move [52]])))))))
 (.seq (.region [⟨(some 4),54,.move,[.c (.bool true)],none⟩])
 (.ret)))))
 [.tmp 4] 0 51
def f94.env:Env:=[]
def f94.tree (a:(List (List (Int)))×(List (List (Int)))):Prop:=Br ((a.1.length:Int) != (a.2.length:Int)) ((false=(j2 a))∧True) (∃ (I5:Int→Prop) (μ6:Int→Nat),(∃ x4:Int,SlS aE a.1 (SlS aE a.2 (((a.1.length:Int)=(a.1.length:Int))∧((0:Int)=x4)∧I5 x4)))∧∀ y7:Int,I5 y7→(Br (decide (y7 < (a.1.length:Int))) (Br (decide ((0:Int)≤y7)&&decide (y7 < (a.1.length:Int))) (Br (decide ((0:Int)≤y7)&&decide (y7 < (a.2.length:Int))) (Br (((at_ a.1 y7).length:Int) != ((at_ a.2 y7).length:Int)) ((false=(j2 a))∧True) (Br (decide ((0:Int)≤y7)&&decide (y7 < (a.1.length:Int))) (∃ (I17:(Int×Int×Int×Int)→Prop) (μ18:(Int×Int×Int×Int)→Nat),(∃ x16:Int×Int×Int×Int,SlS aE a.1 (SlS aE a.2 ((y7=x16.1)∧((a.1.length:Int)=(a.1.length:Int))∧(y7=x16.2.1)∧(((at_ a.1 y7).length:Int)=x16.2.2.1)∧((0:Int)=x16.2.2.2)∧I17 x16)))∧∀ y19:Int×Int×Int×Int,I17 y19→(Br (decide (y19.2.2.2 < y19.2.2.1)) (Br (decide ((0:Int)≤y19.1)&&decide (y19.1 < (a.1.length:Int))) (Br (decide ((0:Int)≤y19.2.2.2)&&decide (y19.2.2.2 < ((at_ a.1 y19.1).length:Int))) (Br (decide ((0:Int)≤y19.1)&&decide (y19.1 < (a.2.length:Int))) (Br (decide ((0:Int)≤y19.2.2.2)&&decide (y19.2.2.2 < ((at_ a.2 y19.1).length:Int))) (Br ((at_ (at_ a.1 y19.1) y19.2.2.2) != (at_ (at_ a.2 y19.1) y19.2.2.2)) ((false=(j2 a))∧True) (Let (IntKind.i64.wrap (y19.2.2.2+(1:Int))) (fun v29:Int=>∃ x30:Int×Int×Int×Int,SlS aE a.1 (SlS aE a.2 ((y19.1=x30.1)∧((a.1.length:Int)=(a.1.length:Int))∧(y19.2.1=x30.2.1)∧(y19.2.2.1=x30.2.2.1)∧(v29=x30.2.2.2)∧I17 x30∧μ18 x30 < μ18 y19))))) False) False) False) False) (Let (IntKind.i64.wrap (y19.2.1+(1:Int))) (fun v41:Int=>∃ x42:Int,SlS aE a.1 (SlS aE a.2 (((a.1.length:Int)=(a.1.length:Int))∧(v41=x42)∧I5 x42∧μ6 x42 < μ6 y7)))))) False)) False) False) ((true=(j2 a))∧True)))
def f94.vc (a:(List (List (Int)))×(List (List (Int)))):Prop:=((¬(a.1.length:Int)=(a.2.length:Int)→(false=j2 a))∧(¬(¬(a.1.length:Int)=(a.2.length:Int))→(∃ (I5:Int→Prop) (μ6:Int→Nat),I5 (0:Int)∧∀ y7:Int,I5 y7→((y7 < (a.1.length:Int)→((0:Int)≤y7∧y7 < (a.1.length:Int)∧((0:Int)≤y7∧y7 < (a.2.length:Int)∧((¬((at_ a.1 y7).length:Int)=((at_ a.2 y7).length:Int)→(false=j2 a))∧(¬(¬((at_ a.1 y7).length:Int)=((at_ a.2 y7).length:Int))→((0:Int)≤y7∧y7 < (a.1.length:Int)∧(∃ (I17:(Int×Int×Int×Int)→Prop) (μ18:(Int×Int×Int×Int)→Nat),I17 (y7,y7,((at_ a.1 y7).length:Int),(0:Int))∧∀ y19:Int×Int×Int×Int,I17 y19→((y19.2.2.2 < y19.2.2.1→((0:Int)≤y19.1∧y19.1 < (a.1.length:Int)∧((0:Int)≤y19.2.2.2∧y19.2.2.2 < ((at_ a.1 y19.1).length:Int)∧((0:Int)≤y19.1∧y19.1 < (a.2.length:Int)∧((0:Int)≤y19.2.2.2∧y19.2.2.2 < ((at_ a.2 y19.1).length:Int)∧((¬(at_ (at_ a.1 y19.1) y19.2.2.2)=(at_ (at_ a.2 y19.1) y19.2.2.2)→(false=j2 a))∧(¬(¬(at_ (at_ a.1 y19.1) y19.2.2.2)=(at_ (at_ a.2 y19.1) y19.2.2.2))→(-9223372036854775808≤(y19.2.2.2+(1:Int))∧(y19.2.2.2+(1:Int))≤9223372036854775807∧(I17 (y19.1,y19.2.1,y19.2.2.1,(y19.2.2.2+(1:Int)))∧μ18 (y19.1,y19.2.1,y19.2.2.1,(y19.2.2.2+(1:Int))) < μ18 y19)))))))))∧(¬(y19.2.2.2 < y19.2.2.1)→(-9223372036854775808≤(y19.2.1+(1:Int))∧(y19.2.1+(1:Int))≤9223372036854775807∧(I5 (y19.2.1+(1:Int))∧μ6 (y19.2.1+(1:Int)) < μ6 y7)))))))))))∧(¬(y7 < (a.1.length:Int))→(true=j2 a))))))
set_option maxRecDepth 100000 in
set_option maxHeartbeats 2000000 in
theorem f94.of (a:(List (List (Int)))×(List (List (Int)))) (h:f94.vc a):f94.tree a:=br h Cnd.ne (fun h1 k63=>⟨k63,trivial⟩) (fun h2 k64=>Exists.elim k64 (fun I5 h60_=>Exists.elim h60_ (fun μ6 h60=>⟨I5,μ6,⟨(0:Int),SlS.mk  (SlS.mk  (⟨rfl,⟨rfl,h60.1⟩⟩))⟩,fun y7 h62=>br (h60.2 y7 h62) Cnd.dec (fun h8 k58=>chk k58.2.2 Cnd.ix ⟨k58.1,k58.2.1⟩ (fun h10 k56=>chk k56.2.2 Cnd.ix ⟨k56.1,k56.2.1⟩ (fun h11 k55=>br k55 Cnd.ne (fun h12 k53=>⟨k53,trivial⟩) (fun h13 k54=>chk k54.2.2 Cnd.ix ⟨k54.1,k54.2.1⟩ (fun h15 k52=>Exists.elim k52 (fun I17 h49_=>Exists.elim h49_ (fun μ18 h49=>⟨I17,μ18,⟨(y7,y7,((at_ a.1 y7).length:Int),(0:Int)),SlS.mk  (SlS.mk  (⟨rfl,⟨rfl,⟨rfl,⟨rfl,⟨rfl,h49.1⟩⟩⟩⟩⟩))⟩,fun y19 h51=>br (h49.2 y19 h51) Cnd.dec (fun h20 k47=>chk k47.2.2 Cnd.ix ⟨k47.1,k47.2.1⟩ (fun h22 k40=>chk k40.2.2 Cnd.ix ⟨k40.1,k40.2.1⟩ (fun h23 k39=>chk k39.2.2 Cnd.ix ⟨k39.1,k39.2.1⟩ (fun h24 k38=>chk k38.2.2 Cnd.ix ⟨k38.1,k38.2.1⟩ (fun h25 k37=>br k37 Cnd.ne (fun h26 k35=>⟨k35,trivial⟩) (fun h27 k36=>wrapK.i64 k36 (fun h32 h33 k34=>⟨(y19.1,y19.2.1,y19.2.2.1,(y19.2.2.2+(1:Int))),SlS.mk  (SlS.mk  (⟨rfl,⟨rfl,⟨rfl,⟨rfl,⟨rfl,k34⟩⟩⟩⟩⟩))⟩))))))) (fun h21 k48=>wrapK.i64 k48 (fun h44 h45 k46=>⟨(y19.2.1+(1:Int)),SlS.mk  (SlS.mk  (⟨rfl,⟨rfl,k46⟩⟩))⟩))⟩))))))) (fun h9 k59=>⟨k59,trivial⟩)⟩)))
theorem f94.eq (a:(List (List (Int)))×(List (List (Int)))):(f94.af a).gives f94.env (f94.args a) (f94.blks a) (f94.res a) (f94.blks' a)=f94.tree a:=by kernel_rfl
end Go.Abs

-- interregnum/interregnumref14.Units
namespace Go.Abs
open Go
def f95.ent (K:(List (aA))→Prop) (t:List (aA)):Prop:=∃ c:List (aA),SlQ t.length c.length (gl aD t) (gl aD c) (K c)
theorem f95.ei {K:(List (aA))→Prop} {t:List (aA)} (h:K t):f95.ent K t:=⟨t,slQ (Rds.self (enc:=aD)) (h)⟩
def f95.args (a:List (aA)):List D:=[.slice .ro 13 a.length (gl aD a)]
def f95.blks (a:List (aA)):List (List D):=[]
def f95.res (a:List (aA)):List D:=[.slice .ro 1 ((bL a).length) (gl aE (bL a))]
def f95.blks' (a:List (aA)):List (List D):=[]
def f95.C:aU:=FnC f95.args f95.blks (fun a=>dP a) f95.res f95.blks'
end Go.Abs

-- interregnum/interregnumref14.sorted
namespace Go.Abs
open Go
def f118.ent (K:(List (aA))→Prop) (t:List (aA)):Prop:=∃ c:List (aA),SlQ t.length c.length (gl aD t) (gl aD c) (K c)
theorem f118.ei {K:(List (aA))→Prop} {t:List (aA)} (h:K t):f118.ent K t:=⟨t,slQ (Rds.self (enc:=aD)) (h)⟩
def f118.args (a:List (aA)):List D:=[.slice .ro 13 a.length (gl aD a)]
def f118.blks (a:List (aA)):List (List D):=[]
def f118.res (a:List (aA)):List D:=[.slice .ro 1 ((bN a).length) (gl aC (bN a))]
def f118.blks' (a:List (aA)):List (List D):=[]
def f118.C:aU:=FnC f118.args f118.blks (fun a=>L20 a) f118.res f118.blks'
end Go.Abs

-- interregnum/interregnumref14.many
namespace Go.Abs
open Go
def f119.ent (K:((List (aA))×ByteArray)→Prop) (t:(List (aA))×ByteArray):Prop:=∃ c:(List (aA))×ByteArray,SlQ t.1.length c.1.length (gl aD t.1) (gl aD c.1) ((t.2=c.2)∧K c)
theorem f119.ei {K:((List (aA))×ByteArray)→Prop} {t:(List (aA))×ByteArray} (h:K t):f119.ent K t:=⟨t,slQ (Rds.self (enc:=aD)) (⟨rfl,h⟩)⟩
def f119.args (a:(List (aA))×ByteArray):List D:=[.slice .ro 13 a.1.length (gl aD a.1),.str a.2]
def f119.blks (a:(List (aA))×ByteArray):List (List D):=[]
def f119.res (a:(List (aA))×ByteArray):List D:=[.int .i64 (cY a)]
def f119.blks' (a:(List (aA))×ByteArray):List (List D):=[]
def f119.C:aU:=FnC f119.args f119.blks (fun a=>aFY a) f119.res f119.blks'
end Go.Abs

/- interregnum/interregnumref14.Units -/
namespace Go.Abs
open Go
set_option linter.unusedVariables false
def f95.S0 (a:List (aA)) (x:(List (List (Int)))×(List (Int))×Int×Int):Tm:=⟨[.slice .ro 13 a.length (gl aD a),.dead,.dead,.slice (.own 1) 1 x.1.length (gl aE x.1),.slice .ro 1 x.2.1.length (gl aC x.2.1),.dead,.dead,.dead,.dead,.dead,.dead,.dead,.dead,.dead,.int .i64 x.2.2.1,.int .i64 x.2.2.2,.dead,.dead,.dead,.dead,.dead,.dead,.dead,.dead,.dead,.dead,.dead,.dead,.dead,.dead,.dead,.dead,.dead,.dead,.dead,.dead,.dead,.dead,.dead,.dead,.dead,.dead,.dead,.dead,.dead,.dead,.dead,.dead,.dead,.dead,.dead,.dead,.dead,.dead,.dead,.dead,.dead,.dead,.dead,.dead,.dead,.dead,.dead,.dead,.dead,.dead,.dead,.dead,.dead,.dead,.dead,.dead,.dead,.dead,.dead,.dead,.dead,.dead,.dead,.dead,.dead,.dead,.dead,.dead,.dead,.dead,.dead,.dead,.dead,.dead,.dead,.dead,.dead,.dead,.dead,.dead,.dead,.dead,.dead,.dead,.dead,.dead,.dead],[],[(1,1,x.1.length)]⟩
def f95.S1 (a:List (aA)) (x:(List (List (Int)))×(List (Int))×Int×ByteArray×Bool×Int×Int×Int):Tm:=⟨[.slice .ro 13 a.length (gl aD a),.dead,.dead,.slice (.own 1) 1 x.1.length (gl aE x.1),.slice .ro 1 x.2.1.length (gl aC x.2.1),.int .i64 x.2.2.1,.str x.2.2.2.1,.bool x.2.2.2.2.1,.int .i64 x.2.2.2.2.2.1,.dead,.dead,.dead,.dead,.dead,.int .i64 x.2.2.2.2.2.2.1,.int .i64 x.2.2.2.2.2.2.2,.dead,.dead,.dead,.dead,.dead,.dead,.dead,.dead,.dead,.dead,.dead,.dead,.dead,.dead,.dead,.dead,.dead,.dead,.dead,.dead,.dead,.dead,.dead,.dead,.dead,.dead,.dead,.dead,.dead,.dead,.dead,.dead,.dead,.dead,.dead,.dead,.dead,.dead,.dead,.dead,.dead,.dead,.dead,.dead,.dead,.dead,.dead,.dead,.dead,.dead,.dead,.dead,.dead,.dead,.dead,.dead,.dead,.dead,.dead,.dead,.dead,.dead,.dead,.dead,.dead,.dead,.dead,.dead,.dead,.dead,.dead,.dead,.dead,.dead,.dead,.dead,.dead,.dead,.dead,.dead,.dead,.dead,.dead,.dead,.dead,.dead,.dead],[],[(1,1,x.1.length)]⟩
def f95.S2 (a:List (aA)) (x:(List (List (Int)))×(List (Int))×ByteArray×(List (Int))×Int×Int×Int×Int):Tm:=⟨[.slice .ro 13 a.length (gl aD a),.dead,.dead,.slice (.own 1) 1 x.1.length (gl aE x.1),.slice .ro 1 x.2.1.length (gl aC x.2.1),.dead,.str x.2.2.1,.dead,.dead,.slice (.own 78) 1 x.2.2.2.1.length (gl aC x.2.2.2.1),.dead,.dead,.dead,.dead,.int .i64 x.2.2.2.2.1,.int .i64 x.2.2.2.2.2.1,.dead,.dead,.dead,.dead,.dead,.dead,.dead,.dead,.dead,.dead,.dead,.dead,.dead,.dead,.dead,.dead,.dead,.dead,.dead,.dead,.dead,.dead,.dead,.dead,.dead,.dead,.dead,.dead,.dead,.dead,.dead,.dead,.dead,.dead,.dead,.dead,.dead,.dead,.dead,.dead,.dead,.dead,.dead,.dead,.dead,.dead,.dead,.dead,.dead,.dead,.dead,.dead,.dead,.dead,.dead,.dead,.dead,.dead,.int .i64 x.2.2.2.2.2.2.1,.int .i64 x.2.2.2.2.2.2.2,.dead,.dead,.dead,.dead,.dead,.dead,.dead,.dead,.dead,.dead,.dead,.dead,.dead,.dead,.dead,.dead,.dead,.dead,.dead,.dead,.dead,.dead,.dead,.dead,.dead,.dead,.dead],[],[(1,1,x.1.length),(78,1,x.2.2.2.1.length)]⟩
def f95.kills (a:List (aA)):List fU:=[.tell ((List (List (Int)))×(List (Int))×Int×Int) (f95.S0 a),
 .tell ((List (List (Int)))×(List (Int))×Int×ByteArray×Bool×Int×Int×Int) (f95.S1 a),
 .tell ((List (List (Int)))×(List (Int))×ByteArray×(List (Int))×Int×Int×Int×Int) (f95.S2 a)]
def f95.cuts (a:List (aA)):List (Nat×Σ β:Type,β→Tm):=[]
def f95.af (a:List (aA)):AF:=AF.mk (.seq (.region [oT 2 0 (.nilSl 1) []])
 (.seq (.region [oT 3 1 (.nilSl 1) []])
 (.seq (.region [oT 11 2 .move [0],
 oT 12 3 (.call false 118) [11],
 oT 4 7 .move [12]])
 (.seq (.seq (.region [oT 13 8 .move [4],
 oT 14 9 (.len false) [13],
 ⟨(some 15),10,.move,[.c (.int .i64 (0))],none⟩])
 (.block 0 (.loopT ((List (List (Int)))×(List (Int))×Int×Int) (f95.S0 a) 11 113 (.seq (.region [oT 16 11 (.bin .lss) [15,14]])
 (.seq (.cond (.t 16) (.skip) (.exit 0))
 (.seq (.block 1 (.seq (.region [oT 17 12 .move [15],
 oT 5 13 .move [17]])
 (.seq (.region [oT 18 14 .move [0],
 oT 19 15 .move [4],
 oT 20 16 .move [5],
 oT 21 17 (.indexAddr 1 none) [19,20],
 oT 22 18 (.load false 1) [21],
 oT 23 19 (.indexAddr 13 none) [18,22],
 oT 24 20 (.fieldAddr 0) [23],
 oT 25 21 (.fieldAddr 8) [24],
 oT 26 22 (.load false 1) [25],
 oT 6 23 .move [26]])
 (.seq (.seq (.region [oT 27 24 .move [6],
 ⟨(some 28),25,(.bin .eql),[.t 27,.c (.str ByteArray.empty)],none⟩])
 (.cond (.t 28) (.seq (.region [oT 29 26 .move [3],
 oT 30 27 .move [4],
 oT 31 28 .move [5],
 oT 32 29 (.indexAddr 1 none) [30,31],
 oT 33 30 (.load false 1) [32],
 oT 34 31 (.buildSlice 1 1 [.int .i64 (0)] [(0,1)]) [33],
 oT 35 32 (.buildSlice 1 1 [.slice .full 1 0 cO] [(0,1)]) [34],
 oT 36 33 (.append 1 24) [29,35],
 oT 3 34 .move [36]])
 (.exit 1)) (.skip)))
 (.seq (.region [⟨(some 7),35,.move,[.c (.bool true)],none⟩])
 (.seq (.seq (.region [⟨(some 8),36,.move,[.c (.int .i64 (0))],none⟩])
 (.block 2 (.loopT ((List (List (Int)))×(List (Int))×Int×ByteArray×Bool×Int×Int×Int) (f95.S1 a) 37 58 (.seq (.seq (.region [oT 37 37 .move [8],
 oT 38 38 .move [5],
 oT 39 39 (.bin .lss) [37,38]])
 (.cond (.t 39) (.skip) (.exit 2)))
 (.seq (.block 3 (.region [oT 42 40 .move [7],
 oT 43 41 .move [42],
 oG 44 42 .move [0] 43 true,
 oG 45 43 .move [4] 43 true,
 oG 46 44 .move [8] 43 true,
 oG 47 45 (.indexAddr 1 none) [45,46] 43 true,
 oG 48 46 (.load false 1) [47] 43 true,
 oG 49 47 (.indexAddr 13 none) [44,48] 43 true,
 oG 50 48 (.fieldAddr 0) [49] 43 true,
 oG 51 49 (.fieldAddr 8) [50] 43 true,
 oG 52 50 (.load false 1) [51] 43 true,
 oG 53 51 .move [6] 43 true,
 oG 54 52 (.bin .neq) [52,53] 43 true,
 ⟨(some 55),53,.pick,[.t 43,.t 54,.c (.bool false)],none⟩,
 oT 7 54 .move [55]]))
 (.region [oT 40 55 .move [8],
 ⟨(some 41),56,(.bin .add),[.t 40,.c (.int .i64 (1))],none⟩,
 oT 8 57 .move [41]]))))))
 (.seq (.seq (.region [oT 56 58 .move [7],
 oT 57 59 (.un .not) [56],
 oT 58 60 .move [57],
 oG 59 61 .move [0] 58 false,
 oG 60 62 .move [6] 58 false,
 oG 61 63 (.call false 119) [59,60] 58 false,
 oG 62 67 .move [0] 58 false,
 oG 63 68 .move [4] 58 false,
 oG 64 69 .move [5] 58 false,
 oG 65 70 (.indexAddr 1 none) [63,64] 58 false,
 oG 66 71 (.load false 1) [65] 58 false,
 oG 67 72 (.indexAddr 13 none) [62,66] 58 false,
 oG 68 73 (.fieldAddr 0) [67] 58 false,
 oG 69 74 (.fieldAddr 9) [68] 58 false,
 oG 70 75 (.load false 1) [69] 58 false,
 oG 71 76 (.bin .lss) [61,70] 58 false,
 ⟨(some 72),77,.pick,[.t 58,.c (.bool true),.t 71],none⟩])
 (.cond (.t 72) (.exit 1) (.skip)))
 (.seq (.region [oT 9 78 (.nilSl 1) []])
 (.seq (.seq (.region [oT 73 79 .move [4],
 oT 74 80 (.len false) [73],
 ⟨(some 75),81,.move,[.c (.int .i64 (0))],none⟩])
 (.block 4 (.loopT ((List (List (Int)))×(List (Int))×ByteArray×(List (Int))×Int×Int×Int×Int) (f95.S2 a) 82 106 (.seq (.region [oT 76 82 (.bin .lss) [75,74]])
 (.seq (.cond (.t 76) (.skip) (.exit 4))
 (.seq (.block 5 (.seq (.region [oT 77 83 .move [75],
 oT 10 84 .move [77]])
 (.seq (.region [oT 78 85 .move [0],
 oT 79 86 .move [4],
 oT 80 87 .move [10],
 oT 81 88 (.indexAddr 1 none) [79,80],
 oT 82 89 (.load false 1) [81],
 oT 83 90 (.indexAddr 13 none) [78,82],
 oT 84 91 (.fieldAddr 0) [83],
 oT 85 92 (.fieldAddr 8) [84],
 oT 86 93 (.load false 1) [85],
 oT 87 94 .move [6],
 oT 88 95 (.bin .eql) [86,87]])
 (.cond (.t 88) (.region [oT 89 96 .move [9],
 oT 90 97 .move [4],
 oT 91 98 .move [10],
 oT 92 99 (.indexAddr 1 none) [90,91],
 oT 93 100 (.load false 1) [92],
 oT 94 101 (.buildSlice 1 1 [.int .i64 (0)] [(0,1)]) [93],
 oT 95 102 (.append 1 8) [89,94],
 oT 9 103 .move [95]]) (.skip)))))
 (.region [⟨(some 96),104,(.bin .add),[.t 75,.c (.int .i64 (1))],none⟩,
 oT 75 105 .move [96]])))))))
 (.region [oT 97 106 .move [3],
 oT 98 107 .move [9],
 oT 99 108 (.buildSlice 1 1 [.slice .full 1 0 cO] [(0,1)]) [98],
 oT 100 109 (.append 1 24) [97,99],
 oT 3 110 .move [100]]))))))))))
 (.region [⟨(some 101),111,(.bin .add),[.t 15,.c (.int .i64 (1))],none⟩,
 oT 15 112 .move [101]])))))))
 (.seq (.region [oT 102 113 .move [3],
 oT 2 114 .move [102]])
 (.ret))))))
 [.tmp 2] 0 102
def f95.env:Env:=[(118,f118.C),(119,f119.C)]
def f95.tree (a:List (aA)):Prop:=f118.ent (fun c1=>(L20 c1)∧∃ (I3:((List (List (Int)))×(List (Int))×Int×Int)→Prop) (μ4:((List (List (Int)))×(List (Int))×Int×Int)→Nat),(∃ x2:(List (List (Int)))×(List (Int))×Int×Int,SlS aD a (SlQ 0 x2.1.length cO (gl aE x2.1) (SlQ ((bN c1).length) x2.2.1.length (gl aC (bN c1)) (gl aC x2.2.1) ((((bN c1).length:Int)=x2.2.2.1)∧((0:Int)=x2.2.2.2)∧(0=x2.1.length)∧I3 x2))))∧∀ y5:(List (List (Int)))×(List (Int))×Int×Int,I3 y5→(Br (decide (y5.2.2.2 < y5.2.2.1)) (Br (decide ((0:Int)≤y5.2.2.2)&&decide (y5.2.2.2 < (y5.2.1.length:Int))) (Br (decide ((0:Int)≤(at_ y5.2.1 y5.2.2.2))&&decide ((at_ y5.2.1 y5.2.2.2) < (a.length:Int))) (Br ((((at_ a (at_ y5.2.1 y5.2.2.2)).1).2.2.2.2.2.2.1).toList==ByteArray.empty.toList) (Br (decide ((0:Int)≤y5.2.2.2)&&decide (y5.2.2.2 < (y5.2.1.length:Int))) ((y5.1.length=y5.1.length∧fW ((y5.1.length+1) * 24))∧(Let (IntKind.i64.wrap (y5.2.2.2+(1:Int))) (fun v13:Int=>∃ x14:(List (List (Int)))×(List (Int))×Int×Int,SlS aD a (SlQ (y5.1.length+1) x14.1.length (cZ (gl aE y5.1) y5.1.length (fun _=>[.slice .ro 1 1 (fun _=>[.int .i64 (at_ y5.2.1 y5.2.2.2)])])) (gl aE x14.1) (SlQ y5.2.1.length x14.2.1.length (gl aC y5.2.1) (gl aC x14.2.1) ((y5.2.2.1=x14.2.2.1)∧(v13=x14.2.2.2)∧((y5.1.length+1)=x14.1.length)∧I3 x14∧μ4 x14 < μ4 y5)))))) False) (∃ (I21:((List (List (Int)))×(List (Int))×Int×ByteArray×Bool×Int×Int×Int)→Prop) (μ22:((List (List (Int)))×(List (Int))×Int×ByteArray×Bool×Int×Int×Int)→Nat),(∃ x20:(List (List (Int)))×(List (Int))×Int×ByteArray×Bool×Int×Int×Int,SlS aD a (SlQ y5.1.length x20.1.length (gl aE y5.1) (gl aE x20.1) (SlQ y5.2.1.length x20.2.1.length (gl aC y5.2.1) (gl aC x20.2.1) ((y5.2.2.2=x20.2.2.1)∧((((at_ a (at_ y5.2.1 y5.2.2.2)).1).2.2.2.2.2.2.1)=x20.2.2.2.1)∧(true=x20.2.2.2.2.1)∧((0:Int)=x20.2.2.2.2.2.1)∧(y5.2.2.1=x20.2.2.2.2.2.2.1)∧(y5.2.2.2=x20.2.2.2.2.2.2.2)∧(y5.1.length=x20.1.length)∧I21 x20))))∧∀ y23:(List (List (Int)))×(List (Int))×Int×ByteArray×Bool×Int×Int×Int,I21 y23→(Br (decide (y23.2.2.2.2.2.1 < y23.2.2.1)) (Br y23.2.2.2.2.1 (Br (decide ((0:Int)≤y23.2.2.2.2.2.1)&&decide (y23.2.2.2.2.2.1 < (y23.2.1.length:Int))) (Br (decide ((0:Int)≤(at_ y23.2.1 y23.2.2.2.2.2.1))&&decide ((at_ y23.2.1 y23.2.2.2.2.2.1) < (a.length:Int))) (Let (IntKind.i64.wrap (y23.2.2.2.2.2.1+(1:Int))) (fun v30:Int=>∃ x31:(List (List (Int)))×(List (Int))×Int×ByteArray×Bool×Int×Int×Int,SlS aD a (SlQ y23.1.length x31.1.length (gl aE y23.1) (gl aE x31.1) (SlQ y23.2.1.length x31.2.1.length (gl aC y23.2.1) (gl aC x31.2.1) ((y23.2.2.1=x31.2.2.1)∧(y23.2.2.2.1=x31.2.2.2.1)∧((!((((at_ a (at_ y23.2.1 y23.2.2.2.2.2.1)).1).2.2.2.2.2.2.1).toList==y23.2.2.2.1.toList))=x31.2.2.2.2.1)∧(v30=x31.2.2.2.2.2.1)∧(y23.2.2.2.2.2.2.1=x31.2.2.2.2.2.2.1)∧(y23.2.2.2.2.2.2.2=x31.2.2.2.2.2.2.2)∧(y23.1.length=x31.1.length)∧I21 x31∧μ22 x31 < μ22 y23))))) False) False) (Let (IntKind.i64.wrap (y23.2.2.2.2.2.1+(1:Int))) (fun v38:Int=>∃ x39:(List (List (Int)))×(List (Int))×Int×ByteArray×Bool×Int×Int×Int,SlS aD a (SlQ y23.1.length x39.1.length (gl aE y23.1) (gl aE x39.1) (SlQ y23.2.1.length x39.2.1.length (gl aC y23.2.1) (gl aC x39.2.1) ((y23.2.2.1=x39.2.2.1)∧(y23.2.2.2.1=x39.2.2.2.1)∧(false=x39.2.2.2.2.1)∧(v38=x39.2.2.2.2.2.1)∧(y23.2.2.2.2.2.2.1=x39.2.2.2.2.2.2.1)∧(y23.2.2.2.2.2.2.2=x39.2.2.2.2.2.2.2)∧(y23.1.length=x39.1.length)∧I21 x39∧μ22 x39 < μ22 y23)))))) (Br (!y23.2.2.2.2.1) (Let (IntKind.i64.wrap (y23.2.2.2.2.2.2.2+(1:Int))) (fun v48:Int=>∃ x49:(List (List (Int)))×(List (Int))×Int×Int,SlS aD a (SlQ y23.1.length x49.1.length (gl aE y23.1) (gl aE x49.1) (SlQ y23.2.1.length x49.2.1.length (gl aC y23.2.1) (gl aC x49.2.1) ((y23.2.2.2.2.2.2.1=x49.2.2.1)∧(v48=x49.2.2.2)∧(y23.1.length=x49.1.length)∧I3 x49∧μ4 x49 < μ4 y5))))) (f119.ent (fun c54=>(aFY c54)∧Br (decide ((0:Int)≤y23.2.2.1)&&decide (y23.2.2.1 < (y23.2.1.length:Int))) (Br (decide ((0:Int)≤(at_ y23.2.1 y23.2.2.1))&&decide ((at_ y23.2.1 y23.2.2.1) < (a.length:Int))) (Br (decide ((cY c54) < (((at_ a (at_ y23.2.1 y23.2.2.1)).1).2.2.2.2.2.2.2))) (Let (IntKind.i64.wrap (y23.2.2.2.2.2.2.2+(1:Int))) (fun v59:Int=>∃ x60:(List (List (Int)))×(List (Int))×Int×Int,SlS aD a (SlQ y23.1.length x60.1.length (gl aE y23.1) (gl aE x60.1) (SlQ y23.2.1.length x60.2.1.length (gl aC y23.2.1) (gl aC x60.2.1) ((y23.2.2.2.2.2.2.1=x60.2.2.1)∧(v59=x60.2.2.2)∧(y23.1.length=x60.1.length)∧I3 x60∧μ4 x60 < μ4 y5))))) (∃ (I66:((List (List (Int)))×(List (Int))×ByteArray×(List (Int))×Int×Int×Int×Int)→Prop) (μ67:((List (List (Int)))×(List (Int))×ByteArray×(List (Int))×Int×Int×Int×Int)→Nat),(∃ x65:(List (List (Int)))×(List (Int))×ByteArray×(List (Int))×Int×Int×Int×Int,SlS aD a (SlQ y23.1.length x65.1.length (gl aE y23.1) (gl aE x65.1) (SlQ y23.2.1.length x65.2.1.length (gl aC y23.2.1) (gl aC x65.2.1) ((y23.2.2.2.1=x65.2.2.1)∧SlQ 0 x65.2.2.2.1.length cO (gl aC x65.2.2.2.1) ((y23.2.2.2.2.2.2.1=x65.2.2.2.2.1)∧(y23.2.2.2.2.2.2.2=x65.2.2.2.2.2.1)∧((y23.2.1.length:Int)=x65.2.2.2.2.2.2.1)∧((0:Int)=x65.2.2.2.2.2.2.2)∧(y23.1.length=x65.1.length)∧(0=x65.2.2.2.1.length)∧I66 x65)))))∧∀ y68:(List (List (Int)))×(List (Int))×ByteArray×(List (Int))×Int×Int×Int×Int,I66 y68→(Br (decide (y68.2.2.2.2.2.2.2 < y68.2.2.2.2.2.2.1)) (Br (decide ((0:Int)≤y68.2.2.2.2.2.2.2)&&decide (y68.2.2.2.2.2.2.2 < (y68.2.1.length:Int))) (Br (decide ((0:Int)≤(at_ y68.2.1 y68.2.2.2.2.2.2.2))&&decide ((at_ y68.2.1 y68.2.2.2.2.2.2.2) < (a.length:Int))) (Br ((((at_ a (at_ y68.2.1 y68.2.2.2.2.2.2.2)).1).2.2.2.2.2.2.1).toList==y68.2.2.1.toList) (Br (decide ((0:Int)≤y68.2.2.2.2.2.2.2)&&decide (y68.2.2.2.2.2.2.2 < (y68.2.1.length:Int))) ((y68.2.2.2.1.length=y68.2.2.2.1.length∧fW ((y68.2.2.2.1.length+1) * 8))∧(Let (IntKind.i64.wrap (y68.2.2.2.2.2.2.2+(1:Int))) (fun v76:Int=>∃ x77:(List (List (Int)))×(List (Int))×ByteArray×(List (Int))×Int×Int×Int×Int,SlS aD a (SlQ y68.1.length x77.1.length (gl aE y68.1) (gl aE x77.1) (SlQ y68.2.1.length x77.2.1.length (gl aC y68.2.1) (gl aC x77.2.1) ((y68.2.2.1=x77.2.2.1)∧SlQ (y68.2.2.2.1.length+1) x77.2.2.2.1.length (cZ (gl aC y68.2.2.2.1) y68.2.2.2.1.length (fun _=>[.int .i64 (at_ y68.2.1 y68.2.2.2.2.2.2.2)])) (gl aC x77.2.2.2.1) ((y68.2.2.2.2.1=x77.2.2.2.2.1)∧(y68.2.2.2.2.2.1=x77.2.2.2.2.2.1)∧(y68.2.2.2.2.2.2.1=x77.2.2.2.2.2.2.1)∧(v76=x77.2.2.2.2.2.2.2)∧(y68.1.length=x77.1.length)∧((y68.2.2.2.1.length+1)=x77.2.2.2.1.length)∧I66 x77∧μ67 x77 < μ67 y68))))))) False) (Let (IntKind.i64.wrap (y68.2.2.2.2.2.2.2+(1:Int))) (fun v83:Int=>∃ x84:(List (List (Int)))×(List (Int))×ByteArray×(List (Int))×Int×Int×Int×Int,SlS aD a (SlQ y68.1.length x84.1.length (gl aE y68.1) (gl aE x84.1) (SlQ y68.2.1.length x84.2.1.length (gl aC y68.2.1) (gl aC x84.2.1) ((y68.2.2.1=x84.2.2.1)∧SlQ y68.2.2.2.1.length x84.2.2.2.1.length (gl aC y68.2.2.2.1) (gl aC x84.2.2.2.1) ((y68.2.2.2.2.1=x84.2.2.2.2.1)∧(y68.2.2.2.2.2.1=x84.2.2.2.2.2.1)∧(y68.2.2.2.2.2.2.1=x84.2.2.2.2.2.2.1)∧(v83=x84.2.2.2.2.2.2.2)∧(y68.1.length=x84.1.length)∧(y68.2.2.2.1.length=x84.2.2.2.1.length)∧I66 x84∧μ67 x84 < μ67 y68))))))) False) False) ((y68.1.length=y68.1.length∧fW ((y68.1.length+1) * 24))∧(Let (IntKind.i64.wrap (y68.2.2.2.2.2.1+(1:Int))) (fun v93:Int=>∃ x94:(List (List (Int)))×(List (Int))×Int×Int,SlS aD a (SlQ (y68.1.length+1) x94.1.length (cZ (gl aE y68.1) y68.1.length (fun _=>[.slice .ro 1 y68.2.2.2.1.length (gl aC y68.2.2.2.1)])) (gl aE x94.1) (SlQ y68.2.1.length x94.2.1.length (gl aC y68.2.1) (gl aC x94.2.1) ((y68.2.2.2.2.1=x94.2.2.1)∧(v93=x94.2.2.2)∧((y68.1.length+1)=x94.1.length)∧I3 x94∧μ4 x94 < μ4 y5))))))))) False) False) (a,y23.2.2.2.1)))))) False) False) ((y5.1.length=y5.1.length)∧SlQ y5.1.length ((bL a).length) (gl aE y5.1) (gl aE (bL a)) (True)))) a
def f95.vc (a:List (aA)):Prop:=(L20 a∧(∃ (I3:((List (List (Int)))×(List (Int))×Int×Int)→Prop) (μ4:((List (List (Int)))×(List (Int))×Int×Int)→Nat),I3 ([],(bN a),((bN a).length:Int),(0:Int))∧∀ y5:(List (List (Int)))×(List (Int))×Int×Int,I3 y5→((y5.2.2.2 < y5.2.2.1→((0:Int)≤y5.2.2.2∧y5.2.2.2 < (y5.2.1.length:Int)∧((0:Int)≤(at_ y5.2.1 y5.2.2.2)∧(at_ y5.2.1 y5.2.2.2) < (a.length:Int)∧(((((at_ a (at_ y5.2.1 y5.2.2.2)).1).2.2.2.2.2.2.1)=ByteArray.empty→((0:Int)≤y5.2.2.2∧y5.2.2.2 < (y5.2.1.length:Int)∧(y5.1.length+1≤1073741824∧(-9223372036854775808≤(y5.2.2.2+(1:Int))∧(y5.2.2.2+(1:Int))≤9223372036854775807∧(I3 (y5.1++([[at_ y5.2.1 y5.2.2.2]]),y5.2.1,y5.2.2.1,(y5.2.2.2+(1:Int)))∧μ4 (y5.1++([[at_ y5.2.1 y5.2.2.2]]),y5.2.1,y5.2.2.1,(y5.2.2.2+(1:Int))) < μ4 y5)))))∧(¬((((at_ a (at_ y5.2.1 y5.2.2.2)).1).2.2.2.2.2.2.1)=ByteArray.empty)→(∃ (I21:((List (List (Int)))×(List (Int))×Int×ByteArray×Bool×Int×Int×Int)→Prop) (μ22:((List (List (Int)))×(List (Int))×Int×ByteArray×Bool×Int×Int×Int)→Nat),I21 (y5.1,y5.2.1,y5.2.2.2,((at_ a (at_ y5.2.1 y5.2.2.2)).1).2.2.2.2.2.2.1,true,(0:Int),y5.2.2.1,y5.2.2.2)∧∀ y23:(List (List (Int)))×(List (Int))×Int×ByteArray×Bool×Int×Int×Int,I21 y23→((y23.2.2.2.2.2.1 < y23.2.2.1→((y23.2.2.2.2.1=true→((0:Int)≤y23.2.2.2.2.2.1∧y23.2.2.2.2.2.1 < (y23.2.1.length:Int)∧((0:Int)≤(at_ y23.2.1 y23.2.2.2.2.2.1)∧(at_ y23.2.1 y23.2.2.2.2.2.1) < (a.length:Int)∧(-9223372036854775808≤(y23.2.2.2.2.2.1+(1:Int))∧(y23.2.2.2.2.2.1+(1:Int))≤9223372036854775807∧(I21 (y23.1,y23.2.1,y23.2.2.1,y23.2.2.2.1,(!((((at_ a (at_ y23.2.1 y23.2.2.2.2.2.1)).1).2.2.2.2.2.2.1).toList==y23.2.2.2.1.toList)),(y23.2.2.2.2.2.1+(1:Int)),y23.2.2.2.2.2.2.1,y23.2.2.2.2.2.2.2)∧μ22 (y23.1,y23.2.1,y23.2.2.1,y23.2.2.2.1,(!((((at_ a (at_ y23.2.1 y23.2.2.2.2.2.1)).1).2.2.2.2.2.2.1).toList==y23.2.2.2.1.toList)),(y23.2.2.2.2.2.1+(1:Int)),y23.2.2.2.2.2.2.1,y23.2.2.2.2.2.2.2) < μ22 y23)))))∧(¬(y23.2.2.2.2.1=true)→(-9223372036854775808≤(y23.2.2.2.2.2.1+(1:Int))∧(y23.2.2.2.2.2.1+(1:Int))≤9223372036854775807∧(I21 (y23.1,y23.2.1,y23.2.2.1,y23.2.2.2.1,false,(y23.2.2.2.2.2.1+(1:Int)),y23.2.2.2.2.2.2.1,y23.2.2.2.2.2.2.2)∧μ22 (y23.1,y23.2.1,y23.2.2.1,y23.2.2.2.1,false,(y23.2.2.2.2.2.1+(1:Int)),y23.2.2.2.2.2.2.1,y23.2.2.2.2.2.2.2) < μ22 y23)))))∧(¬(y23.2.2.2.2.2.1 < y23.2.2.1)→((¬(y23.2.2.2.2.1=true)→(-9223372036854775808≤(y23.2.2.2.2.2.2.2+(1:Int))∧(y23.2.2.2.2.2.2.2+(1:Int))≤9223372036854775807∧(I3 (y23.1,y23.2.1,y23.2.2.2.2.2.2.1,(y23.2.2.2.2.2.2.2+(1:Int)))∧μ4 (y23.1,y23.2.1,y23.2.2.2.2.2.2.1,(y23.2.2.2.2.2.2.2+(1:Int))) < μ4 y5)))∧(¬(¬(y23.2.2.2.2.1=true))→(aFY (a,y23.2.2.2.1)∧((0:Int)≤y23.2.2.1∧y23.2.2.1 < (y23.2.1.length:Int)∧((0:Int)≤(at_ y23.2.1 y23.2.2.1)∧(at_ y23.2.1 y23.2.2.1) < (a.length:Int)∧(((cY (a,y23.2.2.2.1)) < (((at_ a (at_ y23.2.1 y23.2.2.1)).1).2.2.2.2.2.2.2)→(-9223372036854775808≤(y23.2.2.2.2.2.2.2+(1:Int))∧(y23.2.2.2.2.2.2.2+(1:Int))≤9223372036854775807∧(I3 (y23.1,y23.2.1,y23.2.2.2.2.2.2.1,(y23.2.2.2.2.2.2.2+(1:Int)))∧μ4 (y23.1,y23.2.1,y23.2.2.2.2.2.2.1,(y23.2.2.2.2.2.2.2+(1:Int))) < μ4 y5)))∧(¬((cY (a,y23.2.2.2.1)) < (((at_ a (at_ y23.2.1 y23.2.2.1)).1).2.2.2.2.2.2.2))→(∃ (I66:((List (List (Int)))×(List (Int))×ByteArray×(List (Int))×Int×Int×Int×Int)→Prop) (μ67:((List (List (Int)))×(List (Int))×ByteArray×(List (Int))×Int×Int×Int×Int)→Nat),I66 (y23.1,y23.2.1,y23.2.2.2.1,[],y23.2.2.2.2.2.2.1,y23.2.2.2.2.2.2.2,(y23.2.1.length:Int),(0:Int))∧∀ y68:(List (List (Int)))×(List (Int))×ByteArray×(List (Int))×Int×Int×Int×Int,I66 y68→((y68.2.2.2.2.2.2.2 < y68.2.2.2.2.2.2.1→((0:Int)≤y68.2.2.2.2.2.2.2∧y68.2.2.2.2.2.2.2 < (y68.2.1.length:Int)∧((0:Int)≤(at_ y68.2.1 y68.2.2.2.2.2.2.2)∧(at_ y68.2.1 y68.2.2.2.2.2.2.2) < (a.length:Int)∧(((((at_ a (at_ y68.2.1 y68.2.2.2.2.2.2.2)).1).2.2.2.2.2.2.1)=y68.2.2.1→((0:Int)≤y68.2.2.2.2.2.2.2∧y68.2.2.2.2.2.2.2 < (y68.2.1.length:Int)∧(y68.2.2.2.1.length+1≤1073741824∧(-9223372036854775808≤(y68.2.2.2.2.2.2.2+(1:Int))∧(y68.2.2.2.2.2.2.2+(1:Int))≤9223372036854775807∧(I66 (y68.1,y68.2.1,y68.2.2.1,y68.2.2.2.1++([at_ y68.2.1 y68.2.2.2.2.2.2.2]),y68.2.2.2.2.1,y68.2.2.2.2.2.1,y68.2.2.2.2.2.2.1,(y68.2.2.2.2.2.2.2+(1:Int)))∧μ67 (y68.1,y68.2.1,y68.2.2.1,y68.2.2.2.1++([at_ y68.2.1 y68.2.2.2.2.2.2.2]),y68.2.2.2.2.1,y68.2.2.2.2.2.1,y68.2.2.2.2.2.2.1,(y68.2.2.2.2.2.2.2+(1:Int))) < μ67 y68)))))∧(¬((((at_ a (at_ y68.2.1 y68.2.2.2.2.2.2.2)).1).2.2.2.2.2.2.1)=y68.2.2.1)→(-9223372036854775808≤(y68.2.2.2.2.2.2.2+(1:Int))∧(y68.2.2.2.2.2.2.2+(1:Int))≤9223372036854775807∧(I66 (y68.1,y68.2.1,y68.2.2.1,y68.2.2.2.1,y68.2.2.2.2.1,y68.2.2.2.2.2.1,y68.2.2.2.2.2.2.1,(y68.2.2.2.2.2.2.2+(1:Int)))∧μ67 (y68.1,y68.2.1,y68.2.2.1,y68.2.2.2.1,y68.2.2.2.2.1,y68.2.2.2.2.2.1,y68.2.2.2.2.2.2.1,(y68.2.2.2.2.2.2.2+(1:Int))) < μ67 y68)))))))∧(¬(y68.2.2.2.2.2.2.2 < y68.2.2.2.2.2.2.1)→(y68.1.length+1≤1073741824∧(-9223372036854775808≤(y68.2.2.2.2.2.1+(1:Int))∧(y68.2.2.2.2.2.1+(1:Int))≤9223372036854775807∧(I3 (y68.1++([y68.2.2.2.1]),y68.2.1,y68.2.2.2.2.1,(y68.2.2.2.2.2.1+(1:Int)))∧μ4 (y68.1++([y68.2.2.2.1]),y68.2.1,y68.2.2.2.2.1,(y68.2.2.2.2.2.1+(1:Int))) < μ4 y5)))))))))))))))))))))∧(¬(y5.2.2.2 < y5.2.2.1)→(y5.1=bL a)))))
set_option maxRecDepth 100000 in
set_option maxHeartbeats 2000000 in
theorem f95.of (a:List (aA)) (h:f95.vc a):f95.tree a:=(f118.ei ⟨h.1,Exists.elim h.2 (fun I3 h123_=>Exists.elim h123_ (fun μ4 h123=>⟨I3,μ4,⟨([],(bN a),((bN a).length:Int),(0:Int)),SlS.mk  (slQ (Rds.nil (enc:=aE)) (slQ (Rds.self (enc:=aC)) (⟨rfl,⟨rfl,⟨(bM cO (Rds.nil (enc:=aE))),h123.1⟩⟩⟩)))⟩,fun y5 h125=>br (h123.2 y5 h125) Cnd.dec (fun h6 k121=>chk k121.2.2 Cnd.ix ⟨k121.1,k121.2.1⟩ (fun h8 k119=>chk k119.2.2 Cnd.ix ⟨k119.1,k119.2.1⟩ (fun h9 k118=>br k118 Cnd.seq (fun h10 k116=>chk k116.2.2 Cnd.ix ⟨k116.1,k116.2.1⟩ (fun h12 k19=>⟨⟨rfl,(cX k19.1 (by decide))⟩,wrapK.i64 k19.2 (fun h16 h17 k18=>⟨(y5.1++([[at_ y5.2.1 y5.2.2.2]]),y5.2.1,y5.2.2.1,(y5.2.2.2+(1:Int))),SlS.mk  (slQ (Rds.app (enc:=aE) (Rds.self (enc:=aE)) (Rds.one (enc:=aE) (DEqs.cons ((Rds.one (enc:=aC) (DEqs.refl _))).deq DEqs.nil))) (slQ (Rds.self (enc:=aC)) (⟨rfl,⟨rfl,⟨(bM (cZ (gl aE y5.1) y5.1.length (fun _=>[.slice .ro 1 1 (fun _=>[.int .i64 (at_ y5.2.1 y5.2.2.2)])])) (Rds.app (enc:=aE) (Rds.self (enc:=aE)) (Rds.one (enc:=aE) (DEqs.cons ((Rds.one (enc:=aC) (DEqs.refl _))).deq DEqs.nil)))),k18⟩⟩⟩)))⟩)⟩)) (fun h11 k117=>Exists.elim k117 (fun I21 h113_=>Exists.elim h113_ (fun μ22 h113=>⟨I21,μ22,⟨(y5.1,y5.2.1,y5.2.2.2,((at_ a (at_ y5.2.1 y5.2.2.2)).1).2.2.2.2.2.2.1,true,(0:Int),y5.2.2.1,y5.2.2.2),SlS.mk  (slQ (Rds.self (enc:=aE)) (slQ (Rds.self (enc:=aC)) (⟨rfl,⟨rfl,⟨rfl,⟨rfl,⟨rfl,⟨rfl,⟨(bM (gl aE y5.1) (Rds.self (enc:=aE))),h113.1⟩⟩⟩⟩⟩⟩⟩)))⟩,fun y23 h115=>br (h113.2 y23 h115) Cnd.dec (fun h24 k111=>br k111 Cnd.b (fun h26 k44=>chk k44.2.2 Cnd.ix ⟨k44.1,k44.2.1⟩ (fun h28 k37=>chk k37.2.2 Cnd.ix ⟨k37.1,k37.2.1⟩ (fun h29 k36=>wrapK.i64 k36 (fun h33 h34 k35=>⟨(y23.1,y23.2.1,y23.2.2.1,y23.2.2.2.1,(!((((at_ a (at_ y23.2.1 y23.2.2.2.2.2.1)).1).2.2.2.2.2.2.1).toList==y23.2.2.2.1.toList)),(y23.2.2.2.2.2.1+(1:Int)),y23.2.2.2.2.2.2.1,y23.2.2.2.2.2.2.2),SlS.mk  (slQ (Rds.self (enc:=aE)) (slQ (Rds.self (enc:=aC)) (⟨rfl,⟨rfl,⟨rfl,⟨rfl,⟨rfl,⟨rfl,⟨(bM (gl aE y23.1) (Rds.self (enc:=aE))),k35⟩⟩⟩⟩⟩⟩⟩)))⟩)))) (fun h27 k45=>wrapK.i64 k45 (fun h41 h42 k43=>⟨(y23.1,y23.2.1,y23.2.2.1,y23.2.2.2.1,false,(y23.2.2.2.2.2.1+(1:Int)),y23.2.2.2.2.2.2.1,y23.2.2.2.2.2.2.2),SlS.mk  (slQ (Rds.self (enc:=aE)) (slQ (Rds.self (enc:=aC)) (⟨rfl,⟨rfl,⟨rfl,⟨rfl,⟨rfl,⟨rfl,⟨(bM (gl aE y23.1) (Rds.self (enc:=aE))),k43⟩⟩⟩⟩⟩⟩⟩)))⟩))) (fun h25 k112=>br k112 (Cnd.not Cnd.b) (fun h46 k109=>wrapK.i64 k109 (fun h51 h52 k53=>⟨(y23.1,y23.2.1,y23.2.2.2.2.2.2.1,(y23.2.2.2.2.2.2.2+(1:Int))),SlS.mk  (slQ (Rds.self (enc:=aE)) (slQ (Rds.self (enc:=aC)) (⟨rfl,⟨rfl,⟨(bM (gl aE y23.1) (Rds.self (enc:=aE))),k53⟩⟩⟩)))⟩)) (fun h47 k110=>(f119.ei ⟨k110.1,chk k110.2.2.2 Cnd.ix ⟨k110.2.1,k110.2.2.1⟩ (fun h55 k107=>chk k107.2.2 Cnd.ix ⟨k107.1,k107.2.1⟩ (fun h56 k106=>br k106 Cnd.dec (fun h57 k104=>wrapK.i64 k104 (fun h62 h63 k64=>⟨(y23.1,y23.2.1,y23.2.2.2.2.2.2.1,(y23.2.2.2.2.2.2.2+(1:Int))),SlS.mk  (slQ (Rds.self (enc:=aE)) (slQ (Rds.self (enc:=aC)) (⟨rfl,⟨rfl,⟨(bM (gl aE y23.1) (Rds.self (enc:=aE))),k64⟩⟩⟩)))⟩)) (fun h58 k105=>Exists.elim k105 (fun I66 h101_=>Exists.elim h101_ (fun μ67 h101=>⟨I66,μ67,⟨(y23.1,y23.2.1,y23.2.2.2.1,[],y23.2.2.2.2.2.2.1,y23.2.2.2.2.2.2.2,(y23.2.1.length:Int),(0:Int)),SlS.mk  (slQ (Rds.self (enc:=aE)) (slQ (Rds.self (enc:=aC)) (⟨rfl,slQ (Rds.nil (enc:=aC)) (⟨rfl,⟨rfl,⟨rfl,⟨rfl,⟨(bM (gl aE y23.1) (Rds.self (enc:=aE))),⟨(bM cO (Rds.nil (enc:=aC))),h101.1⟩⟩⟩⟩⟩⟩)⟩)))⟩,fun y68 h103=>br (h101.2 y68 h103) Cnd.dec (fun h69 k99=>chk k99.2.2 Cnd.ix ⟨k99.1,k99.2.1⟩ (fun h71 k92=>chk k92.2.2 Cnd.ix ⟨k92.1,k92.2.1⟩ (fun h72 k91=>br k91 Cnd.seq (fun h73 k89=>chk k89.2.2 Cnd.ix ⟨k89.1,k89.2.1⟩ (fun h75 k82=>⟨⟨rfl,(cX k82.1 (by decide))⟩,wrapK.i64 k82.2 (fun h79 h80 k81=>⟨(y68.1,y68.2.1,y68.2.2.1,y68.2.2.2.1++([at_ y68.2.1 y68.2.2.2.2.2.2.2]),y68.2.2.2.2.1,y68.2.2.2.2.2.1,y68.2.2.2.2.2.2.1,(y68.2.2.2.2.2.2.2+(1:Int))),SlS.mk  (slQ (Rds.self (enc:=aE)) (slQ (Rds.self (enc:=aC)) (⟨rfl,slQ (Rds.app (enc:=aC) (Rds.self (enc:=aC)) (Rds.one (enc:=aC) (DEqs.refl _))) (⟨rfl,⟨rfl,⟨rfl,⟨rfl,⟨(bM (gl aE y68.1) (Rds.self (enc:=aE))),⟨(bM (cZ (gl aC y68.2.2.2.1) y68.2.2.2.1.length (fun _=>[.int .i64 (at_ y68.2.1 y68.2.2.2.2.2.2.2)])) (Rds.app (enc:=aC) (Rds.self (enc:=aC)) (Rds.one (enc:=aC) (DEqs.refl _)))),k81⟩⟩⟩⟩⟩⟩)⟩)))⟩)⟩)) (fun h74 k90=>wrapK.i64 k90 (fun h86 h87 k88=>⟨(y68.1,y68.2.1,y68.2.2.1,y68.2.2.2.1,y68.2.2.2.2.1,y68.2.2.2.2.2.1,y68.2.2.2.2.2.2.1,(y68.2.2.2.2.2.2.2+(1:Int))),SlS.mk  (slQ (Rds.self (enc:=aE)) (slQ (Rds.self (enc:=aC)) (⟨rfl,slQ (Rds.self (enc:=aC)) (⟨rfl,⟨rfl,⟨rfl,⟨rfl,⟨(bM (gl aE y68.1) (Rds.self (enc:=aE))),⟨(bM (gl aC y68.2.2.2.1) (Rds.self (enc:=aC))),k88⟩⟩⟩⟩⟩⟩)⟩)))⟩))))) (fun h70 k100=>⟨⟨rfl,(cX k100.1 (by decide))⟩,wrapK.i64 k100.2 (fun h96 h97 k98=>⟨(y68.1++([y68.2.2.2.1]),y68.2.1,y68.2.2.2.2.1,(y68.2.2.2.2.2.1+(1:Int))),SlS.mk  (slQ (Rds.app (enc:=aE) (Rds.self (enc:=aE)) (Rds.one (enc:=aE) (DEqs.refl _))) (slQ (Rds.self (enc:=aC)) (⟨rfl,⟨rfl,⟨(bM (cZ (gl aE y68.1) y68.1.length (fun _=>[.slice .ro 1 y68.2.2.2.1.length (gl aC y68.2.2.2.1)])) (Rds.app (enc:=aE) (Rds.self (enc:=aE)) (Rds.one (enc:=aE) (DEqs.refl _)))),k98⟩⟩⟩)))⟩)⟩)⟩)))))⟩)))⟩)))))) (fun h7 k122=>⟨rfl,slQ (Rds.to (Rds.self (enc:=aE)) k122) (trivial)⟩)⟩))⟩)
theorem f95.eq (a:List (aA)):(f95.af a).gives f95.env (f95.args a) (f95.blks a) (f95.res a) (f95.blks' a)=f95.tree a:=by kernel_rfl
end Go.Abs

-- interregnum/order.Ahead
namespace Go.Abs
open Go
def f96.ent (K:(aA×aA)→Prop) (t:aA×aA):Prop:=∃ c:aA×aA,(t.1.1.1=c.1.1.1)∧(t.1.1.2.1=c.1.1.2.1)∧(t.1.1.2.2.1=c.1.1.2.2.1)∧(t.1.1.2.2.2.1.1=c.1.1.2.2.2.1.1)∧(t.1.1.2.2.2.1.2.1=c.1.1.2.2.2.1.2.1)∧(t.1.1.2.2.2.1.2.2=c.1.1.2.2.2.1.2.2)∧SlQ t.1.1.2.2.2.2.1.length c.1.1.2.2.2.2.1.length (gl aN t.1.1.2.2.2.2.1) (gl aN c.1.1.2.2.2.2.1) ((t.1.1.2.2.2.2.2.1=c.1.1.2.2.2.2.2.1)∧(t.1.1.2.2.2.2.2.2.1=c.1.1.2.2.2.2.2.2.1)∧(t.1.1.2.2.2.2.2.2.2=c.1.1.2.2.2.2.2.2.2)∧(t.1.2.1=c.1.2.1)∧(t.1.2.2.1=c.1.2.2.1)∧(t.1.2.2.2=c.1.2.2.2)∧(t.2.1.1=c.2.1.1)∧(t.2.1.2.1=c.2.1.2.1)∧(t.2.1.2.2.1=c.2.1.2.2.1)∧(t.2.1.2.2.2.1.1=c.2.1.2.2.2.1.1)∧(t.2.1.2.2.2.1.2.1=c.2.1.2.2.2.1.2.1)∧(t.2.1.2.2.2.1.2.2=c.2.1.2.2.2.1.2.2)∧SlQ t.2.1.2.2.2.2.1.length c.2.1.2.2.2.2.1.length (gl aN t.2.1.2.2.2.2.1) (gl aN c.2.1.2.2.2.2.1) ((t.2.1.2.2.2.2.2.1=c.2.1.2.2.2.2.2.1)∧(t.2.1.2.2.2.2.2.2.1=c.2.1.2.2.2.2.2.2.1)∧(t.2.1.2.2.2.2.2.2.2=c.2.1.2.2.2.2.2.2.2)∧(t.2.2.1=c.2.2.1)∧(t.2.2.2.1=c.2.2.2.1)∧(t.2.2.2.2=c.2.2.2.2)∧K c))
theorem f96.ei {K:(aA×aA)→Prop} {t:aA×aA} (h:K t):f96.ent K t:=⟨t,⟨rfl,⟨rfl,⟨rfl,⟨rfl,⟨rfl,⟨rfl,slQ (Rds.self (enc:=aN)) (⟨rfl,⟨rfl,⟨rfl,⟨rfl,⟨rfl,⟨rfl,⟨rfl,⟨rfl,⟨rfl,⟨rfl,⟨rfl,⟨rfl,slQ (Rds.self (enc:=aN)) (⟨rfl,⟨rfl,⟨rfl,⟨rfl,⟨rfl,⟨rfl,h⟩⟩⟩⟩⟩⟩)⟩⟩⟩⟩⟩⟩⟩⟩⟩⟩⟩⟩)⟩⟩⟩⟩⟩⟩⟩
def f96.args (a:aA×aA):List D:=[.agg [.str a.1.1.1,.str a.1.1.2.1,.int .i64 a.1.1.2.2.1,.int .i64 a.1.1.2.2.2.1.1,.int .i64 a.1.1.2.2.2.1.2.1,.int .i64 a.1.1.2.2.2.1.2.2,.slice .ro 2 a.1.1.2.2.2.2.1.length (gl aN a.1.1.2.2.2.2.1),.str a.1.1.2.2.2.2.2.1,.str a.1.1.2.2.2.2.2.2.1,.int .i64 a.1.1.2.2.2.2.2.2.2,.int .i64 a.1.2.1,.str a.1.2.2.1,.int .i64 a.1.2.2.2],.agg [.str a.2.1.1,.str a.2.1.2.1,.int .i64 a.2.1.2.2.1,.int .i64 a.2.1.2.2.2.1.1,.int .i64 a.2.1.2.2.2.1.2.1,.int .i64 a.2.1.2.2.2.1.2.2,.slice .ro 2 a.2.1.2.2.2.2.1.length (gl aN a.2.1.2.2.2.2.1),.str a.2.1.2.2.2.2.2.1,.str a.2.1.2.2.2.2.2.2.1,.int .i64 a.2.1.2.2.2.2.2.2.2,.int .i64 a.2.2.1,.str a.2.2.2.1,.int .i64 a.2.2.2.2]]
def f96.blks (a:aA×aA):List (List D):=[]
def f96.res (a:aA×aA):List D:=[.bool (dX a)]
def f96.blks' (a:aA×aA):List (List D):=[]
def f96.C:aU:=FnC f96.args f96.blks (fun _=>True) f96.res f96.blks'
end Go.Abs

/- interregnum/order.Ahead -/
namespace Go.Abs
open Go
set_option linter.unusedVariables false
def f96.kills (a:aA×aA):List fU:=[]
def f96.cuts (a:aA×aA):List (Nat×Σ β:Type,β→Tm):=[]
def f96.af (a:aA×aA):AF:=AF.mk (.seq (.region [oT 2 0 .box [0],
 oT 3 1 .box [1],
 ⟨(some 4),2,.move,[.c (.bool false)],none⟩])
 (.seq (.region [oT 5 3 (.load true 13) [2],
 oT 6 4 (.load true 13) [3],
 oT 7 5 (.call false 116) [5,6],
 ⟨(some 8),9,(.bin .lss),[.t 7,.c (.int .i64 (0))],none⟩,
 oT 4 10 .move [8]])
 (.ret)))
 [.tmp 4] 0 7
def f96.env:Env:=[(116,f116.C)]
def f96.tree (a:aA×aA):Prop:=f116.ent (fun c1=>True∧((decide ((rK c1) < (0:Int)))=(dX a))∧True) (a.1,a.2)
def f96.vc (a:aA×aA):Prop:=(decide ((rK (a.1,a.2)) < (0:Int))=dX a)
set_option maxRecDepth 100000 in
set_option maxHeartbeats 2000000 in
theorem f96.of (a:aA×aA) (h:f96.vc a):f96.tree a:=(f116.ei ⟨trivial,⟨h,trivial⟩⟩)
theorem f96.eq (a:aA×aA):(f96.af a).gives f96.env (f96.args a) (f96.blks a) (f96.res a) (f96.blks' a)=f96.tree a:=by kernel_rfl
end Go.Abs

-- interregnum/interregnumref14.Ahead
namespace Go.Abs
open Go
def f97.ent (K:(aA×aA)→Prop) (t:aA×aA):Prop:=∃ c:aA×aA,(t.1.1.1=c.1.1.1)∧(t.1.1.2.1=c.1.1.2.1)∧(t.1.1.2.2.1=c.1.1.2.2.1)∧(t.1.1.2.2.2.1.1=c.1.1.2.2.2.1.1)∧(t.1.1.2.2.2.1.2.1=c.1.1.2.2.2.1.2.1)∧(t.1.1.2.2.2.1.2.2=c.1.1.2.2.2.1.2.2)∧SlQ t.1.1.2.2.2.2.1.length c.1.1.2.2.2.2.1.length (gl aN t.1.1.2.2.2.2.1) (gl aN c.1.1.2.2.2.2.1) ((t.1.1.2.2.2.2.2.1=c.1.1.2.2.2.2.2.1)∧(t.1.1.2.2.2.2.2.2.1=c.1.1.2.2.2.2.2.2.1)∧(t.1.1.2.2.2.2.2.2.2=c.1.1.2.2.2.2.2.2.2)∧(t.1.2.1=c.1.2.1)∧(t.1.2.2.1=c.1.2.2.1)∧(t.1.2.2.2=c.1.2.2.2)∧(t.2.1.1=c.2.1.1)∧(t.2.1.2.1=c.2.1.2.1)∧(t.2.1.2.2.1=c.2.1.2.2.1)∧(t.2.1.2.2.2.1.1=c.2.1.2.2.2.1.1)∧(t.2.1.2.2.2.1.2.1=c.2.1.2.2.2.1.2.1)∧(t.2.1.2.2.2.1.2.2=c.2.1.2.2.2.1.2.2)∧SlQ t.2.1.2.2.2.2.1.length c.2.1.2.2.2.2.1.length (gl aN t.2.1.2.2.2.2.1) (gl aN c.2.1.2.2.2.2.1) ((t.2.1.2.2.2.2.2.1=c.2.1.2.2.2.2.2.1)∧(t.2.1.2.2.2.2.2.2.1=c.2.1.2.2.2.2.2.2.1)∧(t.2.1.2.2.2.2.2.2.2=c.2.1.2.2.2.2.2.2.2)∧(t.2.2.1=c.2.2.1)∧(t.2.2.2.1=c.2.2.2.1)∧(t.2.2.2.2=c.2.2.2.2)∧K c))
theorem f97.ei {K:(aA×aA)→Prop} {t:aA×aA} (h:K t):f97.ent K t:=⟨t,⟨rfl,⟨rfl,⟨rfl,⟨rfl,⟨rfl,⟨rfl,slQ (Rds.self (enc:=aN)) (⟨rfl,⟨rfl,⟨rfl,⟨rfl,⟨rfl,⟨rfl,⟨rfl,⟨rfl,⟨rfl,⟨rfl,⟨rfl,⟨rfl,slQ (Rds.self (enc:=aN)) (⟨rfl,⟨rfl,⟨rfl,⟨rfl,⟨rfl,⟨rfl,h⟩⟩⟩⟩⟩⟩)⟩⟩⟩⟩⟩⟩⟩⟩⟩⟩⟩⟩)⟩⟩⟩⟩⟩⟩⟩
def f97.args (a:aA×aA):List D:=[.agg [.str a.1.1.1,.str a.1.1.2.1,.int .i64 a.1.1.2.2.1,.int .i64 a.1.1.2.2.2.1.1,.int .i64 a.1.1.2.2.2.1.2.1,.int .i64 a.1.1.2.2.2.1.2.2,.slice .ro 2 a.1.1.2.2.2.2.1.length (gl aN a.1.1.2.2.2.2.1),.str a.1.1.2.2.2.2.2.1,.str a.1.1.2.2.2.2.2.2.1,.int .i64 a.1.1.2.2.2.2.2.2.2,.int .i64 a.1.2.1,.str a.1.2.2.1,.int .i64 a.1.2.2.2],.agg [.str a.2.1.1,.str a.2.1.2.1,.int .i64 a.2.1.2.2.1,.int .i64 a.2.1.2.2.2.1.1,.int .i64 a.2.1.2.2.2.1.2.1,.int .i64 a.2.1.2.2.2.1.2.2,.slice .ro 2 a.2.1.2.2.2.2.1.length (gl aN a.2.1.2.2.2.2.1),.str a.2.1.2.2.2.2.2.1,.str a.2.1.2.2.2.2.2.2.1,.int .i64 a.2.1.2.2.2.2.2.2.2,.int .i64 a.2.2.1,.str a.2.2.2.1,.int .i64 a.2.2.2.2]]
def f97.blks (a:aA×aA):List (List D):=[]
def f97.res (a:aA×aA):List D:=[.bool (dX a)]
def f97.blks' (a:aA×aA):List (List D):=[]
def f97.C:aU:=FnC f97.args f97.blks (fun _=>True) f97.res f97.blks'
end Go.Abs

/- interregnum/interregnumref14.Ahead -/
namespace Go.Abs
open Go
set_option linter.unusedVariables false
def f97.kills (a:aA×aA):List fU:=[]
def f97.cuts (a:aA×aA):List (Nat×Σ β:Type,β→Tm):=[]
def f97.af (a:aA×aA):AF:=AF.mk (.seq (.region [oT 2 0 .box [0],
 oT 3 1 .box [1],
 ⟨(some 4),2,.move,[.c (.bool false)],none⟩])
 (.seq (.region [oT 5 3 (.fieldAddr 0) [2],
 oT 6 4 (.fieldAddr 2) [5],
 oT 7 5 (.load false 1) [6],
 oT 8 6 (.fieldAddr 0) [3],
 oT 9 7 (.fieldAddr 2) [8],
 oT 10 8 (.load false 1) [9],
 oT 11 9 (.bin .gtr) [7,10],
 oT 12 10 .move [11],
 oG 13 11 (.fieldAddr 0) [2] 12 false,
 oG 14 12 (.fieldAddr 2) [13] 12 false,
 oG 15 13 (.load false 1) [14] 12 false,
 oG 16 14 (.fieldAddr 0) [3] 12 false,
 oG 17 15 (.fieldAddr 2) [16] 12 false,
 oG 18 16 (.load false 1) [17] 12 false,
 oG 19 17 (.bin .eql) [15,18] 12 false,
 oG 20 18 .move [19] 12 false,
 oG 21 19 (.fieldAddr 10) [2] 20 true,
 oG 22 20 (.load false 1) [21] 20 true,
 oG 23 21 (.fieldAddr 10) [3] 20 true,
 oG 24 22 (.load false 1) [23] 20 true,
 oG 25 23 (.bin .lss) [22,24] 20 true,
 ⟨(some 26),24,.pick,[.t 20,.t 25,.c (.bool false)],(some (12,false))⟩,
 ⟨(some 27),25,.pick,[.t 12,.c (.bool true),.t 26],none⟩,
 oT 4 26 .move [27]])
 (.ret)))
 [.tmp 4] 0 26
def f97.env:Env:=[]
def f97.tree (a:aA×aA):Prop:=Br (decide (a.2.1.2.2.1 < a.1.1.2.2.1)) ((true=(dX a))∧True) (Br (a.1.1.2.2.1==a.2.1.2.2.1) (((decide (a.1.2.1 < a.2.2.1))=(dX a))∧True) ((false=(dX a))∧True))
def f97.vc (a:aA×aA):Prop:=((a.2.1.2.2.1 < a.1.1.2.2.1→(true=dX a))∧(¬(a.2.1.2.2.1 < a.1.1.2.2.1)→((a.1.1.2.2.1=a.2.1.2.2.1→(decide (a.1.2.1 < a.2.2.1)=dX a))∧(¬(a.1.1.2.2.1=a.2.1.2.2.1)→(false=dX a)))))
set_option maxRecDepth 100000 in
set_option maxHeartbeats 2000000 in
theorem f97.of (a:aA×aA) (h:f97.vc a):f97.tree a:=br h Cnd.dec (fun h1 k10=>⟨k10,trivial⟩) (fun h2 k11=>br k11 Cnd.eq (fun h4 k8=>⟨k8,trivial⟩) (fun h5 k9=>⟨k9,trivial⟩))
theorem f97.eq (a:aA×aA):(f97.af a).gives f97.env (f97.args a) (f97.blks a) (f97.res a) (f97.blks' a)=f97.tree a:=by kernel_rfl
end Go.Abs

/- slices.Clone[[]int,int] -/
namespace Go.Abs
open Go
set_option linter.unusedVariables false
def f117.kills (a:List (Int)):List fU:=[]
def f117.cuts (a:List (Int)):List (Nat×Σ β:Type,β→Tm):=[]
def f117.af (a:List (Int)):AF:=AF.mk (.seq (.region [oT 2 0 (.nilSl 1) []])
 (.seq (.seq (.region [oT 3 1 .move [0],
 oT 4 2 (.isNil false false) [3]])
 (.cond (.t 4) (.seq (.region [oT 2 3 (.nilSl 1) []])
 (.ret)) (.skip)))
 (.seq (.region [oT 5 4 (.buildSlice 1 0 [.int .i64 (0)] []) [],
 oT 6 5 .move [0],
 oT 7 6 (.append 1 8) [5,6],
 oT 2 7 .move [7]])
 (.ret))))
 [.tmp 2] 0 7
def f117.env:Env:=[]
def f117.tree (a:List (Int)):Prop:=Br (Nat.beq a.length 0) (((0=0)∧SlQ 0 ((d7 a).length) cO (gl aC (d7 a)) (True))∧((fW ((0+a.length) * 8))∧(((0+a.length)=(0+a.length))∧SlQ (0+a.length) ((d7 a).length) (cZ (fun j=>List.take 1 (List.drop (j * 1) [])) 0 (gl aC a)) (gl aC (d7 a)) (True)))) ((fW ((0+a.length) * 8))∧(((0+a.length)=(0+a.length))∧SlQ (0+a.length) ((d7 a).length) (cZ (fun j=>List.take 1 (List.drop (j * 1) [])) 0 (gl aC a)) (gl aC (d7 a)) (True)))
def f117.vc (a:List (Int)):Prop:=((a.length=0→(([]=d7 a)∧(0+a.length≤1073741824∧(([])++a=d7 a))))∧(¬(a.length=0)→(0+a.length≤1073741824∧(([])++a=d7 a))))
set_option maxRecDepth 100000 in
set_option maxHeartbeats 2000000 in
theorem f117.of (a:List (Int)) (h:f117.vc a):f117.tree a:=br h Cnd.beq (fun h1 k6=>⟨⟨rfl,slQ (Rds.to (Rds.nil (enc:=aC)) k6.1) (trivial)⟩,⟨(cX k6.2.1 (by decide)),⟨rfl,slQ (Rds.to (Rds.app (enc:=aC) (Rds.nil (enc:=aC)) (Rds.self (enc:=aC))) k6.2.2) (trivial)⟩⟩⟩) (fun h2 k7=>⟨(cX k7.1 (by decide)),⟨rfl,slQ (Rds.to (Rds.app (enc:=aC) (Rds.nil (enc:=aC)) (Rds.self (enc:=aC))) k7.2) (trivial)⟩⟩)
theorem f117.eq (a:List (Int)):(f117.af a).gives f117.env (f117.args a) (f117.blks a) (f117.res a) (f117.blks' a)=f117.tree a:=by kernel_rfl
end Go.Abs

/- interregnum/interregnumref14.sorted -/
namespace Go.Abs
open Go
set_option linter.unusedVariables false
def f118.S0 (a:List (aA)) (x:(List (Int))×Int):Tm:=⟨[.slice .ro 13 a.length (gl aD a),.dead,.dead,.slice .ro 1 x.1.length (gl aC x.1),.dead,.dead,.dead,.dead,.int .i64 (a.length:Int),.int .i64 x.2,.dead,.dead,.dead,.dead,.dead,.dead,.dead,.dead,.dead,.dead,.dead,.dead,.dead,.dead,.dead,.dead,.dead,.dead,.dead,.dead,.dead,.dead,.dead,.dead,.dead,.dead,.dead,.dead,.dead,.dead,.dead,.dead,.dead,.dead,.dead,.dead,.dead,.dead,.dead,.dead,.dead,.dead,.dead,.dead,.dead],[],[]⟩
def f118.S1 (a:List (aA)) (x:(List (Int))×Int×Int×Int):Tm:=⟨[.slice .ro 13 a.length (gl aD a),.dead,.dead,.slice .ro 1 x.1.length (gl aC x.1),.int .i64 x.2.1,.int .i64 x.2.2.1,.dead,.dead,.int .i64 (a.length:Int),.int .i64 x.2.2.2,.dead,.dead,.dead,.dead,.dead,.dead,.dead,.dead,.dead,.dead,.dead,.dead,.dead,.dead,.dead,.dead,.dead,.dead,.dead,.dead,.dead,.dead,.dead,.dead,.dead,.dead,.dead,.dead,.dead,.dead,.dead,.dead,.dead,.dead,.dead,.dead,.dead,.dead,.dead,.dead,.dead,.dead,.dead,.dead,.dead],[],[]⟩
def f118.kills (a:List (aA)):List fU:=[.tell ((List (Int))×Int) (f118.S0 a),
 .tell ((List (Int))×Int×Int×Int) (f118.S1 a)]
def f118.cuts (a:List (aA)):List (Nat×Σ β:Type,β→Tm):=[]
def f118.af (a:List (aA)):AF:=AF.mk (.seq (.region [oT 2 0 (.nilSl 1) []])
 (.seq (.region [oT 3 1 (.nilSl 1) []])
 (.seq (.seq (.region [oT 7 2 .move [0],
 oT 8 3 (.len false) [7],
 ⟨(some 9),4,.move,[.c (.int .i64 (0))],none⟩])
 (.block 0 (.loopT ((List (Int))×Int) (f118.S0 a) 5 60 (.seq (.region [oT 10 5 (.bin .lss) [9,8]])
 (.seq (.cond (.t 10) (.skip) (.exit 0))
 (.seq (.block 1 (.seq (.region [oT 11 6 .move [9],
 oT 4 7 .move [11]])
 (.seq (.seq (.region [oT 12 8 .move [0],
 oT 13 9 .move [4],
 oT 14 10 (.indexAddr 13 none) [12,13],
 oT 15 11 (.fieldAddr 11) [14],
 oT 16 12 (.load false 1) [15],
 ⟨(some 17),13,(.bin .neq),[.t 16,.c (.str ByteArray.empty)],none⟩])
 (.cond (.t 17) (.exit 1) (.skip)))
 (.seq (.region [oT 18 14 .move [3],
 oT 19 15 (.len false) [18],
 oT 5 16 .move [19]])
 (.seq (.block 2 (.loopT ((List (Int))×Int×Int×Int) (f118.S1 a) 17 40 (.seq (.seq (.region [oT 20 17 .move [5],
 ⟨(some 21),18,(.bin .gtr),[.t 20,.c (.int .i64 (0))],none⟩,
 oT 22 19 .move [21],
 oG 23 20 .move [0] 22 true,
 oG 24 21 .move [4] 22 true,
 oG 25 22 (.indexAddr 13 none) [23,24] 22 true,
 oG 26 23 (.load true 13) [25] 22 true,
 oG 27 24 .move [0] 22 true,
 oG 28 25 .move [3] 22 true,
 oG 29 26 .move [5] 22 true,
 ⟨(some 30),27,(.bin .sub),[.t 29,.c (.int .i64 (1))],(some (22,true))⟩,
 oG 31 28 (.indexAddr 1 none) [28,30] 22 true,
 oG 32 29 (.load false 1) [31] 22 true,
 oG 33 30 (.indexAddr 13 none) [27,32] 22 true,
 oG 34 31 (.load true 13) [33] 22 true,
 oG 35 32 (.call false 97) [26,34] 22 true,
 ⟨(some 36),36,.pick,[.t 22,.t 35,.c (.bool false)],none⟩])
 (.cond (.t 36) (.skip) (.exit 2)))
 (.block 3 (.region [oT 37 37 .move [5],
 ⟨(some 38),38,(.bin .sub),[.t 37,.c (.int .i64 (1))],none⟩,
 oT 5 39 .move [38]])))))
 (.seq (.region [oT 6 40 (.nilSl 1) []])
 (.seq (.region [oT 39 41 .move [6],
 oT 40 42 .move [3],
 oT 41 43 .move [5],
 oT 42 44 (.sliceSl 1 false true false) [40,41],
 oT 43 45 (.append 1 8) [39,42],
 oT 6 46 .move [43]])
 (.seq (.region [oT 44 47 .move [6],
 oT 45 48 .move [4],
 oT 46 49 (.buildSlice 1 1 [.int .i64 (0)] [(0,1)]) [45],
 oT 47 50 (.append 1 8) [44,46],
 oT 6 51 .move [47]])
 (.region [oT 48 52 .move [6],
 oT 49 53 .move [3],
 oT 50 54 .move [5],
 oT 51 55 (.sliceSl 1 true false false) [49,50],
 oT 52 56 (.append 1 8) [48,51],
 oT 3 57 .move [52]])))))))))
 (.region [⟨(some 53),58,(.bin .add),[.t 9,.c (.int .i64 (1))],none⟩,
 oT 9 59 .move [53]])))))))
 (.seq (.region [oT 54 60 .move [3],
 oT 2 61 .move [54]])
 (.ret)))))
 [.tmp 2] 0 54
def f118.env:Env:=[(97,f97.C)]
def f118.tree (a:List (aA)):Prop:=∃ (I2:((List (Int))×Int)→Prop) (μ3:((List (Int))×Int)→Nat),(∃ x1:(List (Int))×Int,SlS aD a (SlQ 0 x1.1.length cO (gl aC x1.1) (((a.length:Int)=(a.length:Int))∧((0:Int)=x1.2)∧I2 x1)))∧∀ y4:(List (Int))×Int,I2 y4→(Br (decide (y4.2 < (a.length:Int))) (Br (decide ((0:Int)≤y4.2)&&decide (y4.2 < (a.length:Int))) (Br (!(((at_ a y4.2).2.2.1).toList==ByteArray.empty.toList)) (Let (IntKind.i64.wrap (y4.2+(1:Int))) (fun v10:Int=>∃ x11:(List (Int))×Int,SlS aD a (SlQ y4.1.length x11.1.length (gl aC y4.1) (gl aC x11.1) (((a.length:Int)=(a.length:Int))∧(v10=x11.2)∧I2 x11∧μ3 x11 < μ3 y4)))) (∃ (I17:((List (Int))×Int×Int×Int)→Prop) (μ18:((List (Int))×Int×Int×Int)→Nat),(∃ x16:(List (Int))×Int×Int×Int,SlS aD a (SlQ y4.1.length x16.1.length (gl aC y4.1) (gl aC x16.1) ((y4.2=x16.2.1)∧((y4.1.length:Int)=x16.2.2.1)∧((a.length:Int)=(a.length:Int))∧(y4.2=x16.2.2.2)∧I17 x16)))∧∀ y19:(List (Int))×Int×Int×Int,I17 y19→(Br (decide ((0:Int) < y19.2.2.1)) (Br (decide ((0:Int)≤y19.2.1)&&decide (y19.2.1 < (a.length:Int))) (Let (IntKind.i64.wrap (y19.2.2.1 - (1:Int))) (fun v23:Int=>Br (decide ((0:Int)≤v23)&&decide (v23 < (y19.1.length:Int))) (Br (decide ((0:Int)≤(at_ y19.1 v23))&&decide ((at_ y19.1 v23) < (a.length:Int))) (f97.ent (fun c26=>True∧Br (dX c26) (Let (IntKind.i64.wrap (y19.2.2.1 - (1:Int))) (fun v29:Int=>∃ x30:(List (Int))×Int×Int×Int,SlS aD a (SlQ y19.1.length x30.1.length (gl aC y19.1) (gl aC x30.1) ((y19.2.1=x30.2.1)∧(v29=x30.2.2.1)∧((a.length:Int)=(a.length:Int))∧(y19.2.2.2=x30.2.2.2)∧I17 x30∧μ18 x30 < μ18 y19)))) (Br (decide ((0:Int)≤(0:Int))&&decide ((0:Int)≤y19.2.2.1)&&decide (y19.2.2.1≤(y19.1.length:Int))&&(y19.2.2.1==y19.2.2.1)) ((0=0∧fW ((0+(Int.toNat (y19.2.2.1 - (0:Int)))) * 8))∧(((0+(Int.toNat (y19.2.2.1 - (0:Int))))=(0+(Int.toNat (y19.2.2.1 - (0:Int))))∧fW (((0+(Int.toNat (y19.2.2.1 - (0:Int))))+1) * 8))∧(Br (decide ((0:Int)≤y19.2.2.1)&&decide (y19.2.2.1≤(y19.1.length:Int))&&decide ((y19.1.length:Int)≤(y19.1.length:Int))&&((y19.1.length:Int)==(y19.1.length:Int))) ((((0+(Int.toNat (y19.2.2.1 - (0:Int))))+1)=((0+(Int.toNat (y19.2.2.1 - (0:Int))))+1)∧fW ((((0+(Int.toNat (y19.2.2.1 - (0:Int))))+1)+(Int.toNat ((y19.1.length:Int) - y19.2.2.1))) * 8))∧(Let (IntKind.i64.wrap (y19.2.2.2+(1:Int))) (fun v37:Int=>∃ x38:(List (Int))×Int,SlS aD a (SlQ (((0+(Int.toNat (y19.2.2.1 - (0:Int))))+1)+(Int.toNat ((y19.1.length:Int) - y19.2.2.1))) x38.1.length (cZ (cZ (cZ cO 0 (wW (gl aC y19.1) 0)) (0+(Int.toNat (y19.2.2.1 - (0:Int)))) (fun _=>[.int .i64 y19.2.1])) ((0+(Int.toNat (y19.2.2.1 - (0:Int))))+1) (wW (gl aC y19.1) (Int.toNat y19.2.2.1))) (gl aC x38.1) (((a.length:Int)=(a.length:Int))∧(v37=x38.2)∧I2 x38∧μ3 x38 < μ3 y4))))) False))) False)) ((at_ a y19.2.1),(at_ a (at_ y19.1 v23)))) False) False)) False) (Br (decide ((0:Int)≤(0:Int))&&decide ((0:Int)≤y19.2.2.1)&&decide (y19.2.2.1≤(y19.1.length:Int))&&(y19.2.2.1==y19.2.2.1)) ((0=0∧fW ((0+(Int.toNat (y19.2.2.1 - (0:Int)))) * 8))∧(((0+(Int.toNat (y19.2.2.1 - (0:Int))))=(0+(Int.toNat (y19.2.2.1 - (0:Int))))∧fW (((0+(Int.toNat (y19.2.2.1 - (0:Int))))+1) * 8))∧(Br (decide ((0:Int)≤y19.2.2.1)&&decide (y19.2.2.1≤(y19.1.length:Int))&&decide ((y19.1.length:Int)≤(y19.1.length:Int))&&((y19.1.length:Int)==(y19.1.length:Int))) ((((0+(Int.toNat (y19.2.2.1 - (0:Int))))+1)=((0+(Int.toNat (y19.2.2.1 - (0:Int))))+1)∧fW ((((0+(Int.toNat (y19.2.2.1 - (0:Int))))+1)+(Int.toNat ((y19.1.length:Int) - y19.2.2.1))) * 8))∧(Let (IntKind.i64.wrap (y19.2.2.2+(1:Int))) (fun v56:Int=>∃ x57:(List (Int))×Int,SlS aD a (SlQ (((0+(Int.toNat (y19.2.2.1 - (0:Int))))+1)+(Int.toNat ((y19.1.length:Int) - y19.2.2.1))) x57.1.length (cZ (cZ (cZ cO 0 (wW (gl aC y19.1) 0)) (0+(Int.toNat (y19.2.2.1 - (0:Int)))) (fun _=>[.int .i64 y19.2.1])) ((0+(Int.toNat (y19.2.2.1 - (0:Int))))+1) (wW (gl aC y19.1) (Int.toNat y19.2.2.1))) (gl aC x57.1) (((a.length:Int)=(a.length:Int))∧(v56=x57.2)∧I2 x57∧μ3 x57 < μ3 y4))))) False))) False)))) False) (SlQ y4.1.length ((bN a).length) (gl aC y4.1) (gl aC (bN a)) (True)))
def f118.vc (a:List (aA)):Prop:=(∃ (I2:((List (Int))×Int)→Prop) (μ3:((List (Int))×Int)→Nat),I2 ([],(0:Int))∧∀ y4:(List (Int))×Int,I2 y4→((y4.2 < (a.length:Int)→((0:Int)≤y4.2∧y4.2 < (a.length:Int)∧((¬(((at_ a y4.2).2.2.1)=ByteArray.empty)→(-9223372036854775808≤(y4.2+(1:Int))∧(y4.2+(1:Int))≤9223372036854775807∧(I2 (y4.1,(y4.2+(1:Int)))∧μ3 (y4.1,(y4.2+(1:Int))) < μ3 y4)))∧(¬(¬(((at_ a y4.2).2.2.1)=ByteArray.empty))→(∃ (I17:((List (Int))×Int×Int×Int)→Prop) (μ18:((List (Int))×Int×Int×Int)→Nat),I17 (y4.1,y4.2,(y4.1.length:Int),y4.2)∧∀ y19:(List (Int))×Int×Int×Int,I17 y19→(((0:Int) < y19.2.2.1→((0:Int)≤y19.2.1∧y19.2.1 < (a.length:Int)∧(-9223372036854775808≤(y19.2.2.1 - (1:Int))∧(y19.2.2.1 - (1:Int))≤9223372036854775807∧((0:Int)≤(y19.2.2.1 - (1:Int))∧(y19.2.2.1 - (1:Int)) < (y19.1.length:Int)∧((0:Int)≤(at_ y19.1 (y19.2.2.1 - (1:Int)))∧(at_ y19.1 (y19.2.2.1 - (1:Int))) < (a.length:Int)∧(((dX ((at_ a y19.2.1),(at_ a (at_ y19.1 (y19.2.2.1 - (1:Int))))))=true→(-9223372036854775808≤(y19.2.2.1 - (1:Int))∧(y19.2.2.1 - (1:Int))≤9223372036854775807∧(I17 (y19.1,y19.2.1,(y19.2.2.1 - (1:Int)),y19.2.2.2)∧μ18 (y19.1,y19.2.1,(y19.2.2.1 - (1:Int)),y19.2.2.2) < μ18 y19)))∧(¬((dX ((at_ a y19.2.1),(at_ a (at_ y19.1 (y19.2.2.1 - (1:Int))))))=true)→((0:Int)≤y19.2.2.1∧y19.2.2.1≤(y19.1.length:Int)∧(0+(Int.toNat (y19.2.2.1 - (0:Int)))≤1073741824∧((0+(Int.toNat (y19.2.2.1 - (0:Int))))+1≤1073741824∧((0:Int)≤y19.2.2.1∧y19.2.2.1≤(y19.1.length:Int)∧(((0+(Int.toNat (y19.2.2.1 - (0:Int))))+1)+(Int.toNat ((y19.1.length:Int) - y19.2.2.1))≤1073741824∧(-9223372036854775808≤(y19.2.2.2+(1:Int))∧(y19.2.2.2+(1:Int))≤9223372036854775807∧(I2 (((([])++(iT y19.1 (0:Int) y19.2.2.1))++([y19.2.1]))++(iT y19.1 y19.2.2.1 (y19.1.length:Int)),(y19.2.2.2+(1:Int)))∧μ3 (((([])++(iT y19.1 (0:Int) y19.2.2.1))++([y19.2.1]))++(iT y19.1 y19.2.2.1 (y19.1.length:Int)),(y19.2.2.2+(1:Int))) < μ3 y4))))))))))))))∧(¬((0:Int) < y19.2.2.1)→((0:Int)≤y19.2.2.1∧y19.2.2.1≤(y19.1.length:Int)∧(0+(Int.toNat (y19.2.2.1 - (0:Int)))≤1073741824∧((0+(Int.toNat (y19.2.2.1 - (0:Int))))+1≤1073741824∧((0:Int)≤y19.2.2.1∧y19.2.2.1≤(y19.1.length:Int)∧(((0+(Int.toNat (y19.2.2.1 - (0:Int))))+1)+(Int.toNat ((y19.1.length:Int) - y19.2.2.1))≤1073741824∧(-9223372036854775808≤(y19.2.2.2+(1:Int))∧(y19.2.2.2+(1:Int))≤9223372036854775807∧(I2 (((([])++(iT y19.1 (0:Int) y19.2.2.1))++([y19.2.1]))++(iT y19.1 y19.2.2.1 (y19.1.length:Int)),(y19.2.2.2+(1:Int)))∧μ3 (((([])++(iT y19.1 (0:Int) y19.2.2.1))++([y19.2.1]))++(iT y19.1 y19.2.2.1 (y19.1.length:Int)),(y19.2.2.2+(1:Int))) < μ3 y4))))))))))))))∧(¬(y4.2 < (a.length:Int))→(y4.1=bN a))))
set_option maxRecDepth 100000 in
set_option maxHeartbeats 2000000 in
theorem f118.of (a:List (aA)) (h:f118.vc a):f118.tree a:=Exists.elim h (fun I2 h75_=>Exists.elim h75_ (fun μ3 h75=>⟨I2,μ3,⟨([],(0:Int)),SlS.mk  (slQ (Rds.nil (enc:=aC)) (⟨rfl,⟨rfl,h75.1⟩⟩))⟩,fun y4 h77=>br (h75.2 y4 h77) Cnd.dec (fun h5 k73=>chk k73.2.2 Cnd.ix ⟨k73.1,k73.2.1⟩ (fun h7 k71=>br k71 (Cnd.not Cnd.seq) (fun h8 k69=>wrapK.i64 k69 (fun h13 h14 k15=>⟨(y4.1,(y4.2+(1:Int))),SlS.mk  (slQ (Rds.self (enc:=aC)) (⟨rfl,⟨rfl,k15⟩⟩))⟩)) (fun h9 k70=>Exists.elim k70 (fun I17 h66_=>Exists.elim h66_ (fun μ18 h66=>⟨I17,μ18,⟨(y4.1,y4.2,(y4.1.length:Int),y4.2),SlS.mk  (slQ (Rds.self (enc:=aC)) (⟨rfl,⟨rfl,⟨rfl,⟨rfl,h66.1⟩⟩⟩⟩))⟩,fun y19 h68=>br (h66.2 y19 h68) Cnd.dec (fun h20 k64=>chk k64.2.2 Cnd.ix ⟨k64.1,k64.2.1⟩ (fun h22 k53=>wrapK.i64 k53 (fun h50 h51 k52=>chk k52.2.2 Cnd.ix ⟨k52.1,k52.2.1⟩ (fun h24 k49=>chk k49.2.2 Cnd.ix ⟨k49.1,k49.2.1⟩ (fun h25 k48=>(f97.ei ⟨trivial,br k48 Cnd.b (fun h27 k45=>wrapK.i64 k45 (fun h32 h33 k34=>⟨(y19.1,y19.2.1,(y19.2.2.1 - (1:Int)),y19.2.2.2),SlS.mk  (slQ (Rds.self (enc:=aC)) (⟨rfl,⟨rfl,⟨rfl,⟨rfl,k34⟩⟩⟩⟩))⟩)) (fun h28 k46=>chk k46.2.2 Cnd.sl ⟨(by decide),k46.1,k46.2.1⟩ (fun h35 k44=>⟨⟨rfl,(cX k44.1 (by decide))⟩,⟨⟨rfl,(cX k44.2.1 (by decide))⟩,chk k44.2.2.2.2 Cnd.sl ⟨k44.2.2.1,k44.2.2.2.1,(Int.le_refl _)⟩ (fun h36 k43=>⟨⟨rfl,(cX k43.1 (by decide))⟩,wrapK.i64 k43.2 (fun h40 h41 k42=>⟨(((([])++(iT y19.1 (0:Int) y19.2.2.1))++([y19.2.1]))++(iT y19.1 y19.2.2.1 (y19.1.length:Int)),(y19.2.2.2+(1:Int))),SlS.mk  (slQ (Rds.app (enc:=aC) (Rds.app (enc:=aC) (Rds.app (enc:=aC) (Rds.nil (enc:=aC)) (Rds.sub (enc:=aC) (Rds.self (enc:=aC)) h35)) (Rds.one (enc:=aC) (DEqs.refl _))) (Rds.sub (enc:=aC) (Rds.self (enc:=aC)) h36)) (⟨rfl,⟨rfl,k42⟩⟩))⟩)⟩)⟩⟩))⟩)))))) (fun h21 k65=>chk k65.2.2 Cnd.sl ⟨(by decide),k65.1,k65.2.1⟩ (fun h54 k63=>⟨⟨rfl,(cX k63.1 (by decide))⟩,⟨⟨rfl,(cX k63.2.1 (by decide))⟩,chk k63.2.2.2.2 Cnd.sl ⟨k63.2.2.1,k63.2.2.2.1,(Int.le_refl _)⟩ (fun h55 k62=>⟨⟨rfl,(cX k62.1 (by decide))⟩,wrapK.i64 k62.2 (fun h59 h60 k61=>⟨(((([])++(iT y19.1 (0:Int) y19.2.2.1))++([y19.2.1]))++(iT y19.1 y19.2.2.1 (y19.1.length:Int)),(y19.2.2.2+(1:Int))),SlS.mk  (slQ (Rds.app (enc:=aC) (Rds.app (enc:=aC) (Rds.app (enc:=aC) (Rds.nil (enc:=aC)) (Rds.sub (enc:=aC) (Rds.self (enc:=aC)) h54)) (Rds.one (enc:=aC) (DEqs.refl _))) (Rds.sub (enc:=aC) (Rds.self (enc:=aC)) h55)) (⟨rfl,⟨rfl,k61⟩⟩))⟩)⟩)⟩⟩))⟩))))) (fun h6 k74=>slQ (Rds.to (Rds.self (enc:=aC)) k74) (trivial))⟩))
theorem f118.eq (a:List (aA)):(f118.af a).gives f118.env (f118.args a) (f118.blks a) (f118.res a) (f118.blks' a)=f118.tree a:=by kernel_rfl
end Go.Abs

/- interregnum/interregnumref14.many -/
namespace Go.Abs
open Go
set_option linter.unusedVariables false
def f119.S0 (a:(List (aA))×ByteArray) (x:Int×Int):Tm:=⟨[.slice .ro 13 a.1.length (gl aD a.1),.str a.2,.dead,.dead,.dead,.int .i64 x.1,.dead,.dead,.int .i64 (a.1.length:Int),.int .i64 x.2,.dead,.dead,.dead,.dead,.dead,.dead,.dead,.dead,.dead,.dead,.dead,.dead,.dead,.dead],[],[]⟩
def f119.kills (a:(List (aA))×ByteArray):List fU:=[.tell (Int×Int) (f119.S0 a)]
def f119.cuts (a:(List (aA))×ByteArray):List (Nat×Σ β:Type,β→Tm):=[]
def f119.af (a:(List (aA))×ByteArray):AF:=AF.mk (.seq (.region [⟨(some 4),0,.move,[.c (.int .i64 (0))],none⟩])
 (.seq (.region [⟨(some 5),1,.move,[.c (.int .i64 (0))],none⟩])
 (.seq (.seq (.region [oT 7 2 .move [0],
 oT 8 3 (.len false) [7],
 ⟨(some 9),4,.move,[.c (.int .i64 (0))],none⟩])
 (.block 0 (.loopT (Int×Int) (f119.S0 a) 5 21 (.seq (.region [oT 10 5 (.bin .lss) [9,8]])
 (.seq (.cond (.t 10) (.skip) (.exit 0))
 (.seq (.block 1 (.seq (.region [oT 11 6 .move [9],
 oT 6 7 .move [11]])
 (.seq (.region [oT 12 8 .move [0],
 oT 13 9 .move [6],
 oT 14 10 (.indexAddr 13 none) [12,13],
 oT 15 11 (.fieldAddr 0) [14],
 oT 16 12 (.fieldAddr 8) [15],
 oT 17 13 (.load false 1) [16],
 oT 18 14 .move [1],
 oT 19 15 (.bin .eql) [17,18]])
 (.cond (.t 19) (.region [oT 20 16 .move [5],
 ⟨(some 21),17,(.bin .add),[.t 20,.c (.int .i64 (1))],none⟩,
 oT 5 18 .move [21]]) (.skip)))))
 (.region [⟨(some 22),19,(.bin .add),[.t 9,.c (.int .i64 (1))],none⟩,
 oT 9 20 .move [22]])))))))
 (.seq (.region [oT 23 21 .move [5],
 oT 4 22 .move [23]])
 (.ret)))))
 [.tmp 4] 0 22
def f119.env:Env:=[]
def f119.tree (a:(List (aA))×ByteArray):Prop:=∃ (I2:(Int×Int)→Prop) (μ3:(Int×Int)→Nat),(∃ x1:Int×Int,SlS aD a.1 ((a.2=a.2)∧((0:Int)=x1.1)∧((a.1.length:Int)=(a.1.length:Int))∧((0:Int)=x1.2)∧I2 x1))∧∀ y4:Int×Int,I2 y4→(Br (decide (y4.2 < (a.1.length:Int))) (Br (decide ((0:Int)≤y4.2)&&decide (y4.2 < (a.1.length:Int))) (Br ((((at_ a.1 y4.2).1).2.2.2.2.2.2.1).toList==a.2.toList) (Let (IntKind.i64.wrap (y4.1+(1:Int))) (fun v10:Int=>Let (IntKind.i64.wrap (y4.2+(1:Int))) (fun v11:Int=>∃ x12:Int×Int,SlS aD a.1 ((a.2=a.2)∧(v10=x12.1)∧((a.1.length:Int)=(a.1.length:Int))∧(v11=x12.2)∧I2 x12∧μ3 x12 < μ3 y4)))) (Let (IntKind.i64.wrap (y4.2+(1:Int))) (fun v20:Int=>∃ x21:Int×Int,SlS aD a.1 ((a.2=a.2)∧(y4.1=x21.1)∧((a.1.length:Int)=(a.1.length:Int))∧(v20=x21.2)∧I2 x21∧μ3 x21 < μ3 y4)))) False) ((y4.1=(cY a))∧True))
def f119.vc (a:(List (aA))×ByteArray):Prop:=(∃ (I2:(Int×Int)→Prop) (μ3:(Int×Int)→Nat),I2 ((0:Int),(0:Int))∧∀ y4:Int×Int,I2 y4→((y4.2 < (a.1.length:Int)→((0:Int)≤y4.2∧y4.2 < (a.1.length:Int)∧(((((at_ a.1 y4.2).1).2.2.2.2.2.2.1)=a.2→(-9223372036854775808≤(y4.1+(1:Int))∧(y4.1+(1:Int))≤9223372036854775807∧(-9223372036854775808≤(y4.2+(1:Int))∧(y4.2+(1:Int))≤9223372036854775807∧(I2 ((y4.1+(1:Int)),(y4.2+(1:Int)))∧μ3 ((y4.1+(1:Int)),(y4.2+(1:Int))) < μ3 y4))))∧(¬((((at_ a.1 y4.2).1).2.2.2.2.2.2.1)=a.2)→(-9223372036854775808≤(y4.2+(1:Int))∧(y4.2+(1:Int))≤9223372036854775807∧(I2 (y4.1,(y4.2+(1:Int)))∧μ3 (y4.1,(y4.2+(1:Int))) < μ3 y4))))))∧(¬(y4.2 < (a.1.length:Int))→(y4.1=cY a))))
set_option maxRecDepth 100000 in
set_option maxHeartbeats 2000000 in
theorem f119.of (a:(List (aA))×ByteArray) (h:f119.vc a):f119.tree a:=Exists.elim h (fun I2 h32_=>Exists.elim h32_ (fun μ3 h32=>⟨I2,μ3,⟨((0:Int),(0:Int)),SlS.mk  (⟨rfl,⟨rfl,⟨rfl,⟨rfl,h32.1⟩⟩⟩⟩)⟩,fun y4 h34=>br (h32.2 y4 h34) Cnd.dec (fun h5 k30=>chk k30.2.2 Cnd.ix ⟨k30.1,k30.2.1⟩ (fun h7 k28=>br k28 Cnd.seq (fun h8 k26=>wrapK.i64 k26 (fun h17 h18 k19=>wrapK.i64 k19 (fun h14 h15 k16=>⟨((y4.1+(1:Int)),(y4.2+(1:Int))),SlS.mk  (⟨rfl,⟨rfl,⟨rfl,⟨rfl,k16⟩⟩⟩⟩)⟩))) (fun h9 k27=>wrapK.i64 k27 (fun h23 h24 k25=>⟨(y4.1,(y4.2+(1:Int))),SlS.mk  (⟨rfl,⟨rfl,⟨rfl,⟨rfl,k25⟩⟩⟩⟩)⟩)))) (fun h6 k31=>⟨k31,trivial⟩)⟩))
theorem f119.eq (a:(List (aA))×ByteArray):(f119.af a).gives f119.env (f119.args a) (f119.blks a) (f119.res a) (f119.blks' a)=f119.tree a:=by kernel_rfl
end Go.Abs

/- Layer 14: units of jobs. -/
namespace Go.Abs
open Go

theorem f117.ok (a:List Int) (h:L20 a):f117.vc a:=by
 have h:a.length≤1048576:=h
 refine ⟨fun c=>⟨?_,by omega,?_⟩,fun c=>⟨by omega,?_⟩⟩
 ·exact (List.length_eq_zero_iff.1 c).symm
 ·exact List.nil_append _
 ·exact List.nil_append _

theorem f96.ok (a:aS×aS) (_:True):f96.vc a:=rfl
theorem pW (a:aS×aS):dX a=true↔a.2.1.2.2.1 < a.1.1.2.2.1∨(a.2.1.2.2.1=a.1.1.2.2.1∧a.1.2.1 < a.2.2.1):=by
 unfold dX rK fE
 rw [decide_eq_true_eq]
 simp only [orI]
 constructor
 ·intro h
  split at h <;> split at h <;> (try split at h) <;> (try split at h) <;> (try split at h) <;> omega
 ·intro h
  split <;> split <;> (try split) <;> (try split) <;> (try split) <;> omega
theorem f97.ok (a:aS×aS) (_:True):f97.vc a:=by
 refine ⟨fun c=>((pW a).2 (.inl c)).symm,fun c=>⟨fun d=>?_,fun d=>?_⟩⟩
 ·rw [Bool.eq_iff_iff,pW,decide_eq_true_eq]
  omega
 ·symm
  rw [Bool.eq_false_iff,Ne,pW]
  omega

theorem pR {l:List aS}:i9 l=true↔l.length≤100∧∀ i,i < l.length→(aO (l.getD i default)).size≤1000:=by
 unfold i9
 simp only [Bool.and_eq_true,decide_eq_true_eq,List.all_eq_true,List.mem_range]
theorem rA {l:List aS} (h:¬i9 l=true):false=i9 l:=(Bool.eq_false_iff.2 h).symm
theorem f92.ok (a:List aS) (h:L20 a):f92.vc a:=by
 have h:a.length≤1048576:=h
 refine ⟨fun c=>rA fun hh=>by have:=(pR.1 hh).1; omega,fun c=>?_⟩
 refine ⟨fun y=>0≤y∧y≤(a.length:Int)∧(∀ i,i < y.toNat→(aO (a.getD i default)).size≤1000),fun y=>a.length - y.toNat,⟨by omega,by omega,fun i hi=>by simp at hi⟩,fun y hy=>?_⟩
 obtain ⟨g0,g1,g2⟩:=hy
 refine ⟨fun hlt=>⟨g0,hlt,fun d=>rA fun hh=>?_,fun d=>⟨by omega,by omega,⟨by omega,by omega,fun i hi=>?_⟩,by simp only; omega⟩⟩,fun hge=>?_⟩
 ·have:=(pR.1 hh).2 y.toNat (by omega)
  have d:1000 < ((aO (a.getD y.toNat default)).size:Int):=d
  omega
 ·by_cases he:i=y.toNat
  ·subst he
   have d:¬1000 < ((aO (a.getD y.toNat default)).size:Int):=d
   omega
  ·exact g2 i (by omega)
 ·symm
  rw [pR]
  exact ⟨by omega,fun i hi=>g2 i (by omega)⟩

theorem f119.ok (a:List aS×ByteArray) (h:aFY a):f119.vc a:=by
 obtain ⟨l,g⟩:=a
 have h:l.length≤1048576:=h
 refine ⟨fun y=>0≤y.2∧y.2≤(l.length:Int)∧y.1=cY (l.take y.2.toNat,g),fun y=>l.length - y.2.toNat,⟨by simp only; omega,by simp only; omega,rfl⟩,fun y hy=>?_⟩
 obtain ⟨n,i⟩:=y
 obtain ⟨g0,g1,g2⟩:=hy
 simp only at g0 g1 g2 ⊢
 have hb:=v4 (l.take i.toNat) g
 rw [← g2,List.length_take] at hb
 refine ⟨fun hlt=>?_,fun hge=>?_⟩
 ·have st:=u9 (l.take i.toNat) (at_ l i) g
  have e:l.take i.toNat++[at_ l i]=l.take (i+1).toNat:=by
   rw [show (i+1).toNat=i.toNat+1 from by omega,kF (by omega)]
   rfl
  rw [e,← g2] at st
  refine ⟨g0,hlt,fun c=>⟨by omega,by omega,by omega,by omega,⟨by omega,by omega,?_⟩,by omega⟩,fun c=>⟨by omega,by omega,⟨by omega,by omega,?_⟩,by omega⟩⟩
  ·rw [st,if_pos (show aO (at_ l i)=g from c)]
  ·rw [st,if_neg (show ¬aO (at_ l i)=g from c)]
   omega
 ·rw [g2,List.take_of_length_le (by omega)]

theorem f94.ok (a:List (List Int)×List (List Int)) (h:nH a):f94.vc a:=by
 obtain ⟨l,m⟩:=a
 obtain ⟨⟨h1,h2⟩,h3,h4⟩:=h
 have h1:l.length≤1048576:=h1
 have no:¬l=m→false=j2 (l,m):=fun e=>(decide_eq_false e).symm
 refine ⟨fun c=>no fun e=>c (by rw [e]),fun c=>?_⟩
 have c:l.length=m.length:=by simp only at c; omega
 refine ⟨fun y=>0≤y∧y≤(l.length:Int)∧∀ j,j < y.toNat→l.getD j default=m.getD j default,fun y=>l.length - y.toNat,⟨by omega,by omega,fun j hj=>absurd hj (Nat.not_lt_zero j)⟩,fun y hy=>?_⟩
 obtain ⟨g0,g1,g2⟩:=hy
 simp only
 refine ⟨fun hlt=>⟨g0,hlt,g0,by omega,fun d=>no fun e=>d (by rw [e]),fun d=>⟨g0,hlt,?_⟩⟩,fun hge=>?_⟩
 ·have hu:(at_ l y).length≤1048576:=h2 _ (iI g0 hlt)
  have d:(at_ l y).length=(at_ m y).length:=by omega
  refine ⟨fun z=>z.1=y∧z.2.1=y∧z.2.2.1=((at_ l y).length:Int)∧0≤z.2.2.2∧z.2.2.2≤((at_ l y).length:Int)∧∀ j,j < z.2.2.2.toNat→(at_ l y).getD j default=(at_ m y).getD j default,fun z=>(at_ l y).length - z.2.2.2.toNat,⟨rfl,rfl,rfl,by simp only; omega,by simp only; omega,fun j hj=>absurd hj (Nat.not_lt_zero j)⟩,fun z hz=>?_⟩
  obtain ⟨i,i2,n,k⟩:=z
  obtain ⟨e1,e2,e3,e4,e5,e6⟩:=hz
  simp only at e1 e2 e3 e4 e5 e6 ⊢
  subst e1; subst e2; subst e3
  refine ⟨fun hk=>⟨g0,hlt,e4,hk,g0,by omega,e4,by omega,fun c2=>no fun e=>c2 (by rw [e]),fun c2=>⟨by omega,by omega,⟨rfl,rfl,rfl,by omega,by omega,fun j hj=>?_⟩,by omega⟩⟩,fun hk=>⟨by omega,by omega,⟨by omega,by omega,fun j hj=>?_⟩,by omega⟩⟩
  ·by_cases q:j=k.toNat
   ·rw [q]
    exact Classical.not_not.1 c2
   ·exact e6 j (by omega)
  ·by_cases q:j=i2.toNat
   ·rw [q]
    exact dZ d fun j hj=>e6 j (by have hj:j < (at_ l i2).length:=hj; omega)
   ·exact g2 j (by omega)
 ·exact (decide_eq_true (dZ c fun j hj=>g2 j (by omega))).symm

theorem uV (j:aS):dC j=true↔j.2.2.1=ByteArray.empty:=decide_eq_true_iff

theorem f118.ok (a:List aS) (h:L20 a):f118.vc a:=by
 have h:a.length≤1048576:=h
 refine ⟨fun y=>0≤y.2∧y.2≤(a.length:Int)∧y.1=a9 (bY a) (dB a y.2.toNat),fun y=>a.length - y.2.toNat,⟨by simp only; omega,by simp only; omega,rfl⟩,fun y hy=>?_⟩
 obtain ⟨S,i⟩:=y
 obtain ⟨g0,g1,g2⟩:=hy
 simp only at g0 g1 g2 ⊢
 have hS:S.length≤i.toNat:=by
  rw [g2,cC]
  exact kN a i.toNat
 have hi:((i.toNat:Nat):Int)=i:=by omega
 refine ⟨fun hlt=>⟨g0,hlt,fun c=>⟨by omega,by omega,⟨by omega,by omega,?_⟩,by omega⟩,fun c=>?_⟩,fun hge=>?_⟩
 ·rw [show (i+1).toNat=i.toNat+1 from by omega,rE (by rw [hi,uV]; exact c)]
  exact g2
 ·have hw:dC (at_ a ((i.toNat:Nat):Int))=true:=by
   rw [hi,uV]
   exact Classical.not_not.1 c
  have sd:Sd (bY a) S:=g2 ▸ iE (t0 a) _
  have inS:∀ x∈S,0≤x∧x < (a.length:Int):=fun x hx=>by
   rw [g2,mR (t0 a),kR] at hx
   omega
  refine ⟨fun z=>z.1=S∧z.2.1=i∧z.2.2.2=i∧0≤z.2.2.1∧z.2.2.1≤(S.length:Int)∧∀ y∈S.drop z.2.2.1.toNat,bY a i y=true,fun z=>z.2.2.1.toNat,⟨rfl,rfl,rfl,by simp only; omega,by simp only; omega,fun y hy=>?_⟩,fun z hz=>?_⟩
  ·simp at hy
  obtain ⟨S',i',k,i2⟩:=z
  obtain ⟨e1,e2,e3,e4,e5,e6⟩:=hz
  simp only at e1 e2 e3 e4 e5 e6 ⊢
  subst e1; subst e2; subst e3
  have fin:(∀ y∈S'.take k.toNat,bY a i2 y=false)→((([]:List Int)++iT S' 0 k)++[i2])++iT S' k (S'.length:Int)=a9 (bY a) (dB a (i2+1).toNat):=fun hA=>by
   have e1:iT S' 0 k=S'.take k.toNat:=by
    unfold iT
    rw [show (k - 0).toNat=k.toNat from by omega]
    rfl
   have e2:iT S' k (S'.length:Int)=S'.drop k.toNat:=by
    unfold iT
    exact List.take_of_length_le (by rw [List.length_drop]; omega)
   rw [e1,e2,List.nil_append,show (i2+1).toNat=i2.toNat+1 from by omega,oX hw,hi]
   exact (aCU (t0 a) (by rw [List.take_append_drop]; exact g2.symm) hA e6).symm
  refine ⟨fun hk=>?_,fun hk=>⟨e4,e5,by omega,by omega,e4,e5,by omega,by omega,by omega,⟨by omega,by omega,fin ?_⟩,by omega⟩⟩
  ·have hx:=inS _ (iI (l:=S') (i:=k - 1) (by omega) (by omega))
   refine ⟨g0,hlt,by omega,by omega,by omega,by omega,hx.1,hx.2,fun c2=>⟨by omega,by omega,⟨rfl,rfl,rfl,by omega,by omega,fun y hy=>?_⟩,by omega⟩,fun c2=>⟨e4,e5,by omega,by omega,e4,e5,by omega,by omega,by omega,⟨by omega,by omega,fin fun y hy=>?_⟩,by omega⟩⟩
   ·have hd:S'.drop (k - 1).toNat=at_ S' (k - 1)::S'.drop k.toNat:=by
     rw [List.drop_eq_getElem_cons (by omega),show (k - 1).toNat+1=k.toNat from by omega]
     exact congrArg (·::S'.drop k.toNat) (eC (by omega)).symm
    rw [hd] at hy
    rcases List.mem_cons.1 hy with rfl | hy
    ·exact c2
    ·exact e6 y hy
   ·obtain ⟨q,hq,rfl⟩:=List.mem_take_iff_getElem.1 hy
    have h2:bY a i2 (at_ S' (k - 1))=false:=Bool.eq_false_iff.2 c2
    by_cases hql:q=(k - 1).toNat
    ·subst hql
     rw [← eC]
     exact h2
    ·have h1:=List.pairwise_iff_getElem.1 sd q (k - 1).toNat (by omega) (by omega) (by omega)
     have h3:at_ S' (k - 1)=S'[(k - 1).toNat]'(by omega):=eC (by omega)
     rw [h3] at h2
     exact (t0 a).le h1 h2
  ·intro y hy
   have:k.toNat=0:=by omega
   rw [this] at hy
   simp at hy
 ·rw [g2,show i.toNat=a.length from by omega]
  rfl

theorem fD {js:List aS} {S:List Int} {k:Nat} (h:¬aO (at_ js (S.getD k default))=ByteArray.empty):lF js S k =
  if (∀ q,q < k→aO (at_ js (S.getD q default))≠aO (at_ js (S.getD k default)))∧aBG (at_ js (S.getD k default))≤cY (js,aO (at_ js (S.getD k default))) then
   [S.filter fun p=>decide (aO (at_ js p)=aO (at_ js (S.getD k default)))] else []:=if_neg h
theorem pZ {js:List aS} {S:List Int} {k:Nat} (h:aO (at_ js (S.getD k default))=ByteArray.empty):lF js S k=[[S.getD k default]]:=if_pos h

theorem f95.ok (a:List aS) (h:dP a):f95.vc a:=by
 have h:a.length≤1048576:=h
 have hlen:=l8 a
 have hin:=t5 a
 have hfin:bL a=eA a (bN a) (bN a).length:=rfl
 unfold f95.vc
 rw [hfin]
 generalize bN a=S at hlen hin
 refine ⟨h,fun y=>y.2.1=S∧y.2.2.1=(S.length:Int)∧0≤y.2.2.2∧y.2.2.2≤(S.length:Int)∧y.1=eA a S y.2.2.2.toNat,fun y=>S.length - y.2.2.2.toNat,⟨rfl,rfl,by simp only; omega,by simp only; omega,rfl⟩,fun y hy=>?_⟩
 obtain ⟨out,S',n,i⟩:=y
 obtain ⟨e1,e2,e3,e4,e5⟩:=hy
 simp only at e1 e2 e3 e4 e5 ⊢
 subst e1; subst e2
 have hout:out.length≤i.toNat:=by
  rw [e5]
  exact mI _ _ _
 refine ⟨fun hlt=>?_,fun hge=>?_⟩
 ·have hx:=hin _ (iI e3 hlt)
  have st:eA a S' (i+1).toNat=out++lF a S' i.toNat:=by
   rw [show (i+1).toNat=i.toNat+1 from by omega,kX,← e5]
  refine ⟨e3,hlt,hx.1,hx.2,fun c=>⟨e3,hlt,by omega,by omega,by omega,⟨rfl,rfl,by omega,by omega,?_⟩,by omega⟩,fun c=>?_⟩
  ·rw [st,pZ c]
   rfl
  ·have hg:∀ s:ByteArray,s=aO (at_ a (at_ S' i))→s=aO (at_ a (S'.getD i.toNat default)):=fun s e=>e
   refine ⟨fun y=>y.1=out∧y.2.1=S'∧y.2.2.1=i∧y.2.2.2.1=aO (at_ a (at_ S' i))∧0≤y.2.2.2.2.2.1∧y.2.2.2.2.2.1≤i∧y.2.2.2.2.2.2.1=(S'.length:Int)∧y.2.2.2.2.2.2.2=i∧(y.2.2.2.2.1=true↔∀ q,q < y.2.2.2.2.2.1.toNat→aO (at_ a (S'.getD q default))≠aO (at_ a (at_ S' i))),
    fun y=>i.toNat - y.2.2.2.2.2.1.toNat,⟨rfl,rfl,rfl,rfl,by simp only; omega,by simp only; omega,rfl,rfl,⟨fun _ q hq=>absurd hq (Nat.not_lt_zero q),fun _=>rfl⟩⟩,fun y hy=>?_⟩
   obtain ⟨out',S'',i',g,first,k,n,i2⟩:=y
   obtain ⟨f1,f2,f3,f4,f5,f6,f7,f8,f9⟩:=hy
   simp only at f1 f2 f3 f4 f5 f6 f7 f8 f9 ⊢
   subst f1; subst f2; subst f3; subst f7; subst f8
   refine ⟨fun hk=>⟨fun c1=>?_,fun c1=>?_⟩,fun hk=>?_⟩
   ·have hy:=hin _ (iI (l:=S'') (i:=k) f5 (by omega))
    refine ⟨f5,by omega,hy.1,hy.2,by omega,by omega,⟨rfl,rfl,rfl,f4,by omega,by omega,rfl,rfl,?_⟩,by omega⟩
    rw [Bool.not_eq_true',beq_eq_false_iff_ne,Ne,toList_inj,f4]
    constructor
    ·intro e q hq
     by_cases hqk:q=k.toNat
     ·rw [hqk]
      exact e
     ·exact f9.1 c1 q (by omega)
    ·exact fun e=>e k.toNat (by omega)
   ·exact ⟨by omega,by omega,⟨rfl,rfl,rfl,f4,by omega,by omega,rfl,rfl,⟨fun e=>(by cases e),fun e=>absurd (f9.2 fun q hq=>e q (by omega)) c1⟩⟩,by omega⟩
   ·have hki:k=i2:=by omega
    refine ⟨fun c1=>⟨by omega,by omega,⟨rfl,rfl,by omega,by omega,?_⟩,by omega⟩,fun c1=>⟨h,e3,hlt,hx.1,hx.2,fun c2=>⟨by omega,by omega,⟨rfl,rfl,by omega,by omega,?_⟩,by omega⟩,fun c2=>?_⟩⟩
    ·rw [st,fD c,if_neg fun e=>c1 (f9.2 fun q hq=>e.1 q (by omega)),List.append_nil]
    ·have c2:cY (a,g) < aBG (at_ a (S''.getD i2.toNat default)):=c2
     rw [f4] at c2
     rw [st,fD c,if_neg fun e=>absurd e.2 (Int.not_le.2 c2),List.append_nil]
    ·have c1:=f9.1 (Classical.not_not.1 c1)
     have c2:¬cY (a,g) < aBG (at_ a (S''.getD i2.toNat default)):=c2
     rw [f4] at c2
     have hu:lF a S'' i2.toNat=[S''.filter fun p=>decide (aO (at_ a p)=aO (at_ a (S''.getD i2.toNat default)))]:=by
      rw [fD c,if_pos ⟨fun q hq=>c1 q (by omega),Int.not_lt.1 c2⟩]
     have hq:∀ p:Int,decide (aO (at_ a p)=g)=decide (aO (at_ a p)=aO (at_ a (S''.getD i2.toNat default))):=fun p=>by rw [f4]; rfl
     refine ⟨fun y=>y.1=out'∧y.2.1=S''∧y.2.2.1=g∧y.2.2.2.2.1=(S''.length:Int)∧y.2.2.2.2.2.1=i2∧y.2.2.2.2.2.2.1=(S''.length:Int)∧0≤y.2.2.2.2.2.2.2∧y.2.2.2.2.2.2.2≤(S''.length:Int)∧y.2.2.2.1=(S''.take y.2.2.2.2.2.2.2.toNat).filter fun p=>decide (aO (at_ a p)=g),
      fun y=>S''.length - y.2.2.2.2.2.2.2.toNat,⟨rfl,rfl,rfl,rfl,rfl,rfl,by simp only; omega,by simp only; omega,rfl⟩,fun y hy=>?_⟩
     obtain ⟨o3,S3,g3,u,n3,i3,m3,k3⟩:=y
     obtain ⟨r1,r2,r3,r4,r5,r6,r7,r8,r9⟩:=hy
     simp only at r1 r2 r3 r4 r5 r6 r7 r8 r9 ⊢
     subst r1; subst r2; subst r3; subst r4; subst r5; subst r6
     have hul:u.length≤k3.toNat:=by
      rw [r9]
      exact Nat.le_trans (List.length_filter_le _ _) (by rw [List.length_take]; omega)
     refine ⟨fun hk3=>?_,fun hk3=>⟨by omega,by omega,by omega,⟨rfl,rfl,by omega,by omega,?_⟩,by omega⟩⟩
     ·have hz:=hin _ (iI (l:=S3) (i:=k3) r7 hk3)
      have tk:S3.take (k3+1).toNat=S3.take k3.toNat++[at_ S3 k3]:=by
       rw [show (k3+1).toNat=k3.toNat+1 from by omega,kF (by omega)]
       rfl
      refine ⟨r7,hk3,hz.1,hz.2,fun d=>⟨r7,hk3,by omega,by omega,by omega,⟨rfl,rfl,rfl,rfl,rfl,rfl,by omega,by omega,?_⟩,by omega⟩,fun d=>⟨by omega,by omega,⟨rfl,rfl,rfl,rfl,rfl,rfl,by omega,by omega,?_⟩,by omega⟩⟩
      ·rw [tk,List.filter_append,← r9,List.filter_cons_of_pos (p:=fun p=>decide (aO (at_ a p)=g3)) (decide_eq_true d)]
       rfl
      ·rw [tk,List.filter_append,← r9,List.filter_cons_of_neg (p:=fun p=>decide (aO (at_ a p)=g3)) (by simpa using (show ¬aO (at_ a (at_ S3 k3))=g3 from d)),List.filter_nil,List.append_nil]
     ·rw [st,hu,r9,List.take_of_length_le (by omega)]
      exact congrArg (o3++[·]) (List.filter_congr fun p _=>hq p)
 ·rw [e5,show i.toNat=S'.length from by omega]

def GMap (a:List aS) (i:Nat) (W:ByteArray→List Int) (m:List (ByteArray×Int×List Int)):Prop :=
 ∀ g,(iN m g=decide (0 < cY (a.take i,g)))∧(iN m g=true→mat m g=(cY (a.take i,g),W g))
theorem GMap.all {a:List aS} {m:List (ByteArray×Int×List Int)} {W:ByteArray→List Int} {i:Nat} (h:GMap a i W m) (hi:a.length≤i) {x:aS} (hx:x∈a):iN m (aO x)=true∧mat m (aO x)=(cY (a,aO x),W (aO x)):=by
 obtain ⟨h1,h2⟩:=h (aO x)
 rw [List.take_of_length_le hi] at h1 h2
 have h3:iN m (aO x)=true:=by
  rw [h1]
  exact decide_eq_true (aEK hx)
 exact ⟨h3,h2 h3⟩

theorem f93.ok (a:List aS) (h:dP a):f93.vc a:=by
 have h:a.length≤1048576:=h
 refine ⟨fun y=>0≤y.1∧y.1≤(a.length:Int)∧y.2.1=dB a y.1.toNat∧GMap a y.1.toNat (fun _=>[]) y.2.2,fun y=>a.length - y.1.toNat,⟨by simp only; omega,by simp only; omega,rfl,fun g=>⟨?_,fun c=>?_⟩⟩,fun y hy=>?_⟩
 ·rw [yA]
  rfl
 ·rw [yA] at c
  cases c
 obtain ⟨i,P,m⟩:=y
 obtain ⟨g0,g1,g2,g3⟩:=hy
 simp only at g0 g1 g2 g3 ⊢
 have hP:P.length≤i.toNat:=by
  rw [g2]
  exact kN a i.toNat
 have hi:((i.toNat:Nat):Int)=i:=by omega
 refine ⟨fun hlt=>?_,fun hge=>?_⟩
 ·have e:a.take (i+1).toNat=a.take i.toNat++[at_ a i]:=by
   rw [show (i+1).toNat=i.toNat+1 from by omega,kF (by omega)]
   rfl
  have step:∀ n:Int,n=cY (a.take i.toNat,aO (at_ a i))+1→GMap a (i+1).toNat (fun _=>[]) (dR m (aO (at_ a i)) (n,[])):=fun n hn g=>by
   rw [tF,wB,e,u9,(g3 g).1]
   have hb:=v4 (a.take i.toNat) g
   by_cases c:aO (at_ a i)=g
   ·subst c
    rw [if_pos rfl,if_pos rfl,decide_eq_true rfl,Bool.true_or]
    exact ⟨(decide_eq_true (by omega)).symm,fun _=>by rw [hn]⟩
   ·rw [if_neg c,if_neg c,decide_eq_false c,Bool.false_or,Int.add_zero]
    exact ⟨rfl,fun d=>(g3 g).2 (by rw [(g3 g).1]; exact d)⟩
  have hb:=v4 (a.take i.toNat) (aO (at_ a i))
  rw [List.length_take] at hb
  have pY:dC (at_ a i)=true→P++[i]=dB a (i+1).toNat:=fun c=>by
   rw [show (i+1).toNat=i.toNat+1 from by omega,oX (by rw [hi]; exact c),← g2,hi]
  have pN:¬dC (at_ a i)=true→P=dB a (i+1).toNat:=fun c=>by
   rw [show (i+1).toNat=i.toNat+1 from by omega,rE (by rw [hi]; exact c),← g2]
  refine ⟨g0,hlt,fun c=>?_,fun c=>?_⟩
  ·have hm:mat m (aO (at_ a i))=(cY (a.take i.toNat,aO (at_ a i)),[]):=(g3 _).2 c
   have hm':mat m ((at_ a i).1).2.2.2.2.2.2.1=(cY (a.take i.toNat,aO (at_ a i)),[]):=hm
   rw [hm']
   exact ⟨by omega,by omega,fun c2=>⟨by omega,by omega,by omega,⟨by omega,by omega,pY c2,step _ rfl⟩,by omega⟩,fun c2=>⟨by omega,by omega,⟨by omega,by omega,pN c2,step _ rfl⟩,by omega⟩⟩
  ·have c:¬iN m (aO (at_ a i))=true:=c
   rw [(g3 _).1,decide_eq_true_eq] at c
   have hz:(1:Int)=cY (a.take i.toNat,aO (at_ a i))+1:=by omega
   exact ⟨fun c2=>⟨by omega,by omega,by omega,⟨by omega,by omega,pY c2,step _ hz⟩,by omega⟩,fun c2=>⟨by omega,by omega,⟨by omega,by omega,pN c2,step _ hz⟩,by omega⟩⟩
 ·have hia:i.toNat=a.length:=by omega
  rw [hia] at g2 g3
  have hP2:fK (P,a)=bN a:=by
   rw [g2]
   rfl
  have hlen:=l8 a
  have hin:=t5 a
  have hnd:=oY a
  refine ⟨⟨by simp only; omega,fun x hx=>?_⟩,cC _,?_⟩
  ·rw [g2,kR] at hx
   exact hx.1
  ·rw [hP2]
   have hfin:bL a=eA a (bN a) (bN a).length:=rfl
   rw [hfin]
   generalize bN a=S at hlen hin hnd
   have gof:∀ {j:Int},0≤j→j < (S.length:Int)→at_ a (at_ S j)∈a:=fun h0 h1=>iI (hin _ (iI h0 h1)).1 (hin _ (iI h0 h1)).2
   refine ⟨fun y=>y.1=S∧y.2.1=S∧y.2.2.1=(S.length:Int)∧0≤y.2.2.2.1∧y.2.2.2.1≤(S.length:Int)∧GMap a a.length (fun g=>(S.take y.2.2.2.1.toNat).filter fun p=>decide (aO (at_ a p)=g)) y.2.2.2.2,fun y=>S.length - y.2.2.2.1.toNat,⟨rfl,rfl,rfl,by simp only; omega,by simp only; omega,g3⟩,fun y hy=>?_⟩
   obtain ⟨S1,S2,n,j,m2⟩:=y
   obtain ⟨e1,e2,e3,e4,e5,e6⟩:=hy
   simp only at e1 e2 e3 e4 e5 e6 ⊢
   subst e1; subst e2; subst e3
   refine ⟨fun hj=>?_,fun hj=>?_⟩
   ·have hx:=hin _ (iI e4 hj)
    obtain ⟨q1,q2⟩:=e6.all (Nat.le_refl _) (gof e4 hj)
    have q2':mat m2 ((at_ a (at_ S2 j)).1).2.2.2.2.2.2.1=(cY (a,aO (at_ a (at_ S2 j))),(S2.take j.toNat).filter fun p=>decide (aO (at_ a p)=aO (at_ a (at_ S2 j)))):=q2
    refine ⟨e4,hj,hx.1,hx.2,fun c=>?_,fun c=>absurd q1 c⟩
    rw [q2']
    have hl:=List.length_filter_le (fun p=>decide (aO (at_ a p)=aO (at_ a (at_ S2 j)))) (S2.take j.toNat)
    rw [List.length_take] at hl
    refine ⟨by simp only; omega,hx.1,hx.2,by omega,by omega,⟨rfl,rfl,rfl,by omega,by omega,fun g=>?_⟩,by omega⟩
    have tk:S2.take (j+1).toNat=S2.take j.toNat++[at_ S2 j]:=by
     rw [show (j+1).toNat=j.toNat+1 from by omega,kF (by omega)]
     rfl
    have hs:=tF (aO (at_ a (at_ S2 j))) g (cY (a,aO (at_ a (at_ S2 j))),((S2.take j.toNat).filter fun p=>decide (aO (at_ a p)=aO (at_ a (at_ S2 j))))++[at_ S2 j]) m2
    have ha:=wB (aO (at_ a (at_ S2 j))) g (cY (a,aO (at_ a (at_ S2 j))),((S2.take j.toNat).filter fun p=>decide (aO (at_ a p)=aO (at_ a (at_ S2 j))))++[at_ S2 j]) m2
    show (iN (dR m2 (aO (at_ a (at_ S2 j))) _) g=_)∧(iN (dR m2 (aO (at_ a (at_ S2 j))) _) g=true→mat (dR m2 (aO (at_ a (at_ S2 j))) _) g=_)
    rw [hs,ha,(e6 g).1,tk]
    simp only
    by_cases cg:aO (at_ a (at_ S2 j))=g
    ·subst cg
     rw [if_pos rfl,decide_eq_true rfl,Bool.true_or,List.filter_append,List.filter_cons_of_pos (p:=fun p=>decide (aO (at_ a p)=aO (at_ a (at_ S2 j)))) (decide_eq_true rfl),List.filter_nil]
     rw [(e6 _).1] at q1
     rw [List.take_of_length_le (Nat.le_refl _)] at q1 ⊢
     exact ⟨q1.symm,fun _=>rfl⟩
    ·rw [if_neg cg,decide_eq_false cg,Bool.false_or,List.filter_append,List.filter_cons_of_neg (p:=fun p=>decide (aO (at_ a p)=g)) (by simpa using cg),List.filter_nil,List.append_nil]
     exact ⟨rfl,fun d=>(e6 g).2 (by rw [(e6 g).1]; exact d)⟩
   ·have hjS:S2.take j.toNat=S2:=List.take_of_length_le (by omega)
    rw [hjS] at e6
    refine ⟨fun y=>y.2.1=S2∧y.2.2.1=(S2.length:Int)∧0≤y.2.2.2.1∧y.2.2.2.1≤(S2.length:Int)∧y.2.2.2.2=m2∧y.1=eA a S2 y.2.2.2.1.toNat,fun y=>S2.length - y.2.2.2.1.toNat,⟨rfl,rfl,by simp only; omega,by simp only; omega,rfl,rfl⟩,fun y hy=>?_⟩
    obtain ⟨out,S3,n3,k,m3⟩:=y
    obtain ⟨r1,r2,r3,r4,r5,r6⟩:=hy
    simp only at r1 r2 r3 r4 r5 r6 ⊢
    subst r1; subst r2; subst r5
    have hout:out.length≤k.toNat:=by
     rw [r6]
     exact mI _ _ _
    refine ⟨fun hk=>?_,fun hk=>?_⟩
    ·have hx:=hin _ (iI r3 hk)
     obtain ⟨q1,q2⟩:=e6.all (Nat.le_refl _) (gof r3 hk)
     have q2':mat m3 ((at_ a (at_ S3 k)).1).2.2.2.2.2.2.1=(cY (a,aO (at_ a (at_ S3 k))),S3.filter fun p=>decide (aO (at_ a p)=aO (at_ a (at_ S3 k)))):=q2
     have st:eA a S3 (k+1).toNat=out++lF a S3 k.toNat:=by
      rw [show (k+1).toNat=k.toNat+1 from by omega,kX,← r6]
     refine ⟨r3,hk,hx.1,hx.2,fun c=>⟨fun d=>⟨by omega,by omega,by omega,⟨rfl,rfl,by omega,by omega,rfl,?_⟩,by omega⟩,fun d=>?_⟩,fun c=>absurd q1 c⟩
     ·rw [st,pZ d]
      rfl
     ·rw [q2']
      obtain ⟨w1,w2⟩:=qQ hnd (j:=k.toNat) (by omega) (q:=fun p=>decide (aO (at_ a p)=aO (at_ a (at_ S3 k)))) (decide_eq_true rfl)
      have hl:=List.length_filter_le (fun p=>decide (aO (at_ a p)=aO (at_ a (at_ S3 k)))) S3
      have hfirst:at_ S3 k=at_ (S3.filter fun p=>decide (aO (at_ a p)=aO (at_ a (at_ S3 k)))) 0↔∀ q,q < k.toNat→aO (at_ a (S3.getD q default))≠aO (at_ a (S3.getD k.toNat default)):=by
       refine w2.trans (forall_congr' fun q=>imp_congr_right fun _=>?_)
       rw [decide_eq_false_iff_not]
       exact Iff.rfl
      refine ⟨by simp only; omega,fun c1=>⟨fun c2=>⟨?_,by omega,by omega,by omega,⟨rfl,rfl,by omega,by omega,rfl,?_⟩,by omega⟩,fun c2=>⟨by omega,by omega,⟨rfl,rfl,by omega,by omega,rfl,?_⟩,by omega⟩⟩,fun c1=>⟨by omega,by omega,⟨rfl,rfl,by omega,by omega,rfl,?_⟩,by omega⟩⟩
      ·show (S3.filter fun p=>decide (aO (at_ a p)=aO (at_ a (at_ S3 k)))).length≤1048576
       omega
      ·rw [st,fD d,if_pos ⟨hfirst.1 c1,c2⟩]
       rfl
      ·rw [st,fD d,if_neg fun e=>c2 e.2,List.append_nil]
      ·rw [st,fD d,if_neg fun e=>c1 (hfirst.2 e.1),List.append_nil]
    ·rw [r6,show k.toNat=S3.length from by omega]
end Go.Abs
