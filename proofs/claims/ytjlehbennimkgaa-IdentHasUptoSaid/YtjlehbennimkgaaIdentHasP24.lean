/- Functions, and what the code asks of them: PIdent. -/
import Derived.KernelRfl
import Derived.Test.YtjlehbennimkgaaIdentHasP4
import Derived.Test.YtjlehbennimkgaaIdentHasP5
import Derived.Test.YtjlehbennimkgaaIdentHasP6
import Derived.Test.YtjlehbennimkgaaIdentHasP9
import Derived.Test.YtjlehbennimkgaaIdentHasP11
import Derived.Test.YtjlehbennimkgaaIdentHasP13
import Derived.Test.YtjlehbennimkgaaIdentHasP14
import Derived.Test.YtjlehbennimkgaaIdentHasP15
import Derived.Test.YtjlehbennimkgaaIdentHasP16
import Derived.Test.YtjlehbennimkgaaIdentHasP17
import Derived.Test.YtjlehbennimkgaaIdentHasP20
import Derived.Test.YtjlehbennimkgaaIdentHasP21
import Derived.Test.YtjlehbennimkgaaIdentHasP22
import Derived.Test.YtjlehbennimkgaaIdentHasP23
set_option maxRecDepth 100000
set_option maxHeartbeats 4000000
set_option linter.unusedVariables false
set_option linter.unusedSimpArgs false
namespace Go.Abs
open Go
theorem oA {α:Type} {P:List α→Prop} (h0:P []) (h:∀ l x,P l→P (l++[x])) (l:List α):P l:=by
 have k:∀ l:List α,P l.reverse:=fun l=>by
  induction l with
  | nil=>exact h0
  | cons x l ih =>
   rw [List.reverse_cons]
   exact h _ _ ih
 have:=k l.reverse
 rwa [List.reverse_reverse] at this
theorem aDB (a:ByteArray):slt a a=false:=gA _
theorem gT {a b c:ByteArray} (h1:slt a b=true) (h2:slt b c=true):slt a c=true:=hG h1 h2
theorem nJ {a b:ByteArray} (h:slt a b=true):a≠b:=fun e=>by
 rw [e,aDB] at h
 cases h
theorem tY {a b:ByteArray} (h1:¬slt a b=true) (h2:a≠b):slt b a=true:=by
 rcases rI.1 (Bool.eq_false_iff.2 h1) with h | h
 ·exact mO.2 h
 ·exact absurd h.symm h2
def SK (l:List bK):Prop:=l.Pairwise fun x y=>slt x.1 y.1=true
def oS (l:List bK) (k:ByteArray):Option ByteArray:=l.foldl (fun o x=>if x.1=k then some x.2 else o) none
theorem nZ (l:List bK) (x:bK) (k:ByteArray):oS (l++[x]) k=if x.1=k then some x.2 else oS l k:=by
 unfold oS
 rw [List.foldl_append]
 rfl
theorem nW (l:List bK) (x:bK):cE (l++[x])=aAZ x (cE l):=by
 unfold cE
 rw [List.foldl_append]
 rfl
theorem sB (x z:bK):∀ {S:List bK},SK S→(z∈aAZ x S↔z=x∨(z∈S∧z.1≠x.1))
 | [],_=>by simp [aAZ]
 | y::S,h=>by
  obtain ⟨h1,h2⟩:=List.pairwise_cons.1 h
  unfold aAZ
  split
  next c =>
   rw [List.mem_cons,sB x z h2,List.mem_cons]
   constructor
   ·rintro (rfl | rfl | ⟨e,f⟩)
    ·exact .inr ⟨.inl rfl,nJ c⟩
    ·exact .inl rfl
    ·exact .inr ⟨.inr e,f⟩
   ·rintro (rfl | ⟨rfl | e,f⟩)
    ·exact .inr (.inl rfl)
    ·exact .inl rfl
    ·exact .inr (.inr ⟨e,f⟩)
  next c =>
   split
   next d =>
    rw [List.mem_cons,List.mem_cons]
    constructor
    ·rintro (rfl | e)
     ·exact .inl rfl
     ·exact .inr ⟨.inr e,fun k=>nJ (h1 z e) (d.trans k.symm)⟩
    ·rintro (rfl | ⟨rfl | e,f⟩)
     ·exact .inl rfl
     ·exact absurd d f
     ·exact .inr e
   next d =>
    have lt:=tY c d
    rw [List.mem_cons,List.mem_cons]
    constructor
    ·rintro (rfl | rfl | e)
     ·exact .inl rfl
     ·exact .inr ⟨.inl rfl,d⟩
     ·exact .inr ⟨.inr e,fun k=>nJ (gT lt (h1 z e)) k.symm⟩
    ·rintro (rfl | ⟨rfl | e,f⟩)
     ·exact .inl rfl
     ·exact .inr (.inl rfl)
     ·exact .inr (.inr e)
theorem aC5 (x:bK):∀ {S:List bK},SK S→SK (aAZ x S)
 | [],_=>List.pairwise_cons.2 ⟨fun _ h=>absurd h List.not_mem_nil,List.Pairwise.nil⟩
 | y::S,h=>by
  obtain ⟨h1,h2⟩:=List.pairwise_cons.1 h
  unfold aAZ
  split
  next c =>
   refine List.pairwise_cons.2 ⟨fun z hz=>?_,aC5 x h2⟩
   rcases (sB x z h2).1 hz with rfl | ⟨e,_⟩
   ·exact c
   ·exact h1 z e
  next c =>
   split
   next d =>
    refine List.pairwise_cons.2 ⟨fun z hz=>?_,h2⟩
    rw [← d]
    exact h1 z hz
   next d =>
    have lt:=tY c d
    refine List.pairwise_cons.2 ⟨fun z hz=>?_,h⟩
    rcases List.mem_cons.1 hz with rfl | hz
    ·exact lt
    ·exact gT lt (h1 z hz)
theorem sY (l:List bK):SK (cE l):=by
 induction l using oA with
 | h0=>exact List.Pairwise.nil
 | h l x ih =>
  rw [nW]
  exact aC5 x ih
theorem zW (l:List bK) (z:bK):z∈cE l↔oS l z.1=some z.2:=by
 induction l using oA with
 | h0=>exact ⟨fun h=>absurd h List.not_mem_nil,fun h=>by cases h⟩
 | h l x ih =>
  rw [nW,sB x z (sY l),nZ,ih]
  obtain ⟨a,b⟩:=x
  obtain ⟨c,d⟩:=z
  simp only [Prod.mk.injEq]
  by_cases h:a=c
  ·rw [if_pos h,Option.some.injEq]
   constructor
   ·rintro (⟨_,e⟩ | ⟨_,e⟩)
    ·exact e.symm
    ·exact absurd h.symm e
   ·exact fun e=>.inl ⟨h.symm,e.symm⟩
  ·rw [if_neg h]
   constructor
   ·rintro (⟨e,_⟩ | ⟨e,_⟩)
    ·exact absurd e.symm h
    ·exact e
   ·exact fun e=>.inr ⟨e,fun k=>h k.symm⟩
theorem SK.key {S:List bK} (h:SK S) {x y:bK} (hx:x∈S) (hy:y∈S) (e:x.1=y.1):x=y:=by
 induction S with
 | nil=>cases hx
 | cons z S ih =>
  obtain ⟨h1,h2⟩:=List.pairwise_cons.1 h
  rcases List.mem_cons.1 hx with cx | cx
  ·rcases List.mem_cons.1 hy with cy | cy
   ·rw [cx,cy]
   ·rw [cx] at e
    exact absurd e (nJ (h1 y cy))
  ·rcases List.mem_cons.1 hy with cy | cy
   ·rw [cy] at e
    exact absurd e.symm (nJ (h1 x cx))
   ·exact ih h2 cx cy
theorem SK.uniq:∀ {S T:List bK},SK S→SK T→(∀ z,z∈S↔z∈T)→S=T
 | [],[],_,_,_=>rfl
 | [],y::T,_,_,e=>absurd ((e y).2 (List.mem_cons_self ..)) List.not_mem_nil
 | x::S,[],_,_,e=>absurd ((e x).1 (List.mem_cons_self ..)) List.not_mem_nil
 | x::S,y::T,h,k,e=>by
  obtain ⟨h1,h2⟩:=List.pairwise_cons.1 h
  obtain ⟨k1,k2⟩:=List.pairwise_cons.1 k
  have xy:x=y:=by
   rcases List.mem_cons.1 ((e x).1 (List.mem_cons_self ..)) with c | c
   ·exact c
   ·rcases List.mem_cons.1 ((e y).2 (List.mem_cons_self ..)) with d | d
    ·exact d.symm
    ·have:=gT (k1 x c) (h1 y d)
     rw [aDB] at this
     cases this
  subst xy
  refine congrArg (x::·) (SK.uniq h2 k2 fun z=>⟨fun hz=>?_,fun hz=>?_⟩)
  ·rcases List.mem_cons.1 ((e z).1 (List.mem_cons_of_mem _ hz)) with c | c
   ·exact absurd (congrArg Prod.fst c.symm) (nJ (h1 z hz))
   ·exact c
  ·rcases List.mem_cons.1 ((e z).2 (List.mem_cons_of_mem _ hz)) with c | c
   ·exact absurd (congrArg Prod.fst c.symm) (nJ (k1 z hz))
   ·exact c
theorem aBN {S:List bK} {k v:ByteArray} (h:cR (S,k)=(v,true)):(k,v)∈S:=by
 unfold cR at h
 simp only at h
 split at h
 next x e =>
  have e1:=List.find?_some e
  have e2:=List.mem_of_find?_eq_some e
  have e1:x.1=k:=of_decide_eq_true e1
  rw [← e1,← (Prod.mk.inj h).1]
  exact e2
 next=>cases (Prod.mk.inj h).2
theorem aGA {S:List bK} (s:SK S) {k v:ByteArray} (h:(k,v)∈S):cR (S,k)=(v,true):=by
 unfold cR
 simp only
 split
 next x e =>
  have e1:=List.find?_some e
  have e2:=List.mem_of_find?_eq_some e
  have e1:x.1=k:=of_decide_eq_true e1
  rw [s.key e2 h e1]
 next e =>
  have:=List.find?_eq_none.1 e _ h
  exact absurd (decide_eq_true rfl) this
theorem aFE:∀ {l:List bK},(∀ i,i+1 < l.length→slt (l.getD i default).1 (l.getD (i+1) default).1=true)→SK l
 | [],_=>List.Pairwise.nil
 | [x],_=>List.pairwise_cons.2 ⟨fun _ h=>absurd h List.not_mem_nil,List.Pairwise.nil⟩
 | x::y::l,h=>by
  have t:SK (y::l):=aFE fun i hi=>by
   have:=h (i+1) (by rw [List.length_cons]; omega)
   rwa [List.getD_cons_succ,List.getD_cons_succ] at this
  have h0:slt x.1 y.1=true:=h 0 (by simp only [List.length_cons]; omega)
  refine List.pairwise_cons.2 ⟨fun z hz=>?_,t⟩
  rcases List.mem_cons.1 hz with rfl | hz
  ·exact h0
  ·exact gT h0 ((List.pairwise_cons.1 t).1 z hz)
theorem aFM (k:ByteArray):jC ([]:List bK) k=false:=decide_eq_false (Nat.lt_irrefl 0)
theorem fI (x:bK) (l:List bK) (k:ByteArray):jC (x::l) k=(decide (x.1=k) || jC l k):=by
 obtain ⟨a,b⟩:=x
 unfold jC
 rw [List.length_cons,kU]
 by_cases h:a=k
 ·rw [if_pos h,decide_eq_true (Nat.succ_pos _),decide_eq_true h]
  rfl
 ·rw [if_neg h,decide_eq_false h,Bool.false_or]
  exact decide_eq_decide.2 (by omega)
theorem k8 (x:bK) (l:List bK) (k:ByteArray):mat (x::l) k=if x.1=k then x.2 else mat l k:=by
 obtain ⟨a,b⟩:=x
 unfold mat
 rw [List.length_cons,kU]
 by_cases h:a=k
 ·rw [if_pos h,if_pos h]
  rfl
 ·rw [if_neg h,if_neg h,List.getD_cons_succ]
theorem yJ (k v q:ByteArray):∀ m:List bK,jC (fD m k v) q=(decide (k=q) || jC m q)
 | []=>by
  show jC [(k,v)] q=_
  rw [fI]
 | (a,b)::m=>by
  unfold fD
  by_cases h:a=k
  ·rw [if_pos h,fI,fI,h]
   simp only
   cases decide (k=q) <;> rfl
  ·rw [if_neg h,fI,yJ k v q m,fI]
   simp only
   cases decide (k=q) <;> cases decide (a=q) <;> rfl
theorem aAC (k v q:ByteArray):∀ m:List bK,mat (fD m k v) q=if k=q then v else mat m q
 | []=>by
  show mat [(k,v)] q=_
  rw [k8]
 | (a,b)::m=>by
  unfold fD
  by_cases h:a=k
  ·rw [if_pos h,k8,k8,h]
   simp only
   split <;> rfl
  ·rw [if_neg h,k8,aAC k v q m,k8]
   simp only
   by_cases c:k=q
   ·rw [if_pos c,if_pos c,if_neg fun e=>h (e.trans c.symm)]
   ·rw [if_neg c,if_neg c]
theorem oB (m:List bK) (k:ByteArray):jC m k=true↔k∈m.map Prod.fst:=by
 induction m with
 | nil=>simp [aFM]
 | cons x m ih =>
  rw [fI,Bool.or_eq_true,decide_eq_true_eq,ih,List.map_cons,List.mem_cons]
  exact or_congr ⟨Eq.symm,Eq.symm⟩ Iff.rfl
theorem i9 (k v:ByteArray):∀ m:List bK,(fD m k v).map Prod.fst=if jC m k=true then m.map Prod.fst else m.map Prod.fst++[k]
 | []=>rfl
 | (a,b)::m=>by
  unfold fD
  rw [fI]
  by_cases h:a=k
  ·rw [if_pos h,if_pos (by rw [decide_eq_true h]; rfl),h]
   rfl
  ·rw [if_neg h,decide_eq_false h,Bool.false_or,List.map_cons,i9 k v m]
   by_cases c:jC m k=true
   ·rw [if_pos c,if_pos c]
    rfl
   ·rw [if_neg c,if_neg c]
    rfl
def eK (l:List bK):List bK:=l.foldl (fun m x=>fD m x.1 x.2) []
theorem jZ (l:List bK) (x:bK):eK (l++[x])=fD (eK l) x.1 x.2:=by
 unfold eK
 rw [List.foldl_append]
 rfl
theorem aCH (l:List bK) (k:ByteArray):oS l k=if jC (eK l) k=true then some (mat (eK l) k) else none:=by
 induction l using oA with
 | h0=>rfl
 | h l x ih =>
  rw [nZ,jZ,yJ,aAC,ih]
  by_cases c:x.1=k
  ·rw [if_pos c,if_pos c,decide_eq_true c,Bool.true_or,if_pos rfl]
  ·rw [if_neg c,if_neg c,decide_eq_false c,Bool.false_or]
theorem y6 (l:List bK):((eK l).map Prod.fst).Nodup:=by
 induction l using oA with
 | h0=>exact List.nodup_nil
 | h l x ih =>
  rw [jZ,i9]
  by_cases c:jC (eK l) x.1=true
  ·rw [if_pos c]
   exact ih
  ·rw [if_neg c]
   refine List.nodup_append.2 ⟨ih,List.nodup_cons.2 ⟨List.not_mem_nil,List.nodup_nil⟩,fun a ha b hb=>?_⟩
   rw [List.mem_singleton.1 hb]
   exact fun e=>c ((oB _ _).2 (e ▸ ha))
theorem wC (l:List bK):(eK l).length≤l.length:=by
 induction l using oA with
 | h0=>exact Nat.le_refl _
 | h l x ih =>
  have e:=congrArg List.length (i9 x.1 x.2 (eK l))
  rw [List.length_map] at e
  rw [jZ,e,List.length_append,List.length_singleton]
  split
  ·rw [List.length_map]
   omega
  ·rw [List.length_append,List.length_map,List.length_singleton]
   omega
theorem l6:Weak slt:=⟨fun h=>sF h,fun {x y z} h1 h2=>Bool.eq_false_iff.2 fun h=>by
 rcases rI.1 h1 with c | c
 ·rw [gT h (mO.2 c)] at h2
  cases h2
 ·rw [c,h2] at h
  cases h⟩
theorem qW (x:ByteArray):∀ {S:List ByteArray},(S.Pairwise fun a b=>slt a b=true)→(∀ y∈S,y≠x)→(rT slt x S).Pairwise fun a b=>slt a b=true
 | [],_,_=>List.pairwise_cons.2 ⟨fun _ h=>absurd h List.not_mem_nil,List.Pairwise.nil⟩
 | y::S,h,k=>by
  obtain ⟨h1,h2⟩:=List.pairwise_cons.1 h
  unfold rT
  split
  next c =>
   refine List.pairwise_cons.2 ⟨fun z hz=>?_,qW x h2 fun z hz=>k z (List.mem_cons_of_mem _ hz)⟩
   rcases List.mem_cons.1 (FE.mem l6 (rL l6 x S) hz) with rfl | hz
   ·exact c
   ·exact h1 z hz
  next c =>
   have lt:=tY c (k y (List.mem_cons_self ..))
   refine List.pairwise_cons.2 ⟨fun z hz=>?_,h⟩
   rcases List.mem_cons.1 hz with rfl | hz
   ·exact lt
   ·exact gT lt (h1 z hz)
theorem qK:∀ {l:List ByteArray},l.Nodup→(i7 slt l).Pairwise fun a b=>slt a b=true
 | [],_=>List.Pairwise.nil
 | x::l,h=>by
  obtain ⟨h1,h2⟩:=List.nodup_cons.1 h
  exact qW x (qK h2) fun y hy e=>h1 (e ▸ (l7 l6).1 hy)
theorem y8 (l:List bK):((i7 slt ((eK l).map Prod.fst)).map fun k=>(k,mat (eK l) k))=cE l:=by
 refine SK.uniq ?_ (sY l) fun z=>?_
 ·unfold SK
  rw [List.pairwise_map]
  exact qK (y6 l)
 ·rw [zW,aCH,List.mem_map]
  obtain ⟨a,b⟩:=z
  constructor
  ·rintro ⟨k,hk,e⟩
   obtain ⟨rfl,rfl⟩:=Prod.mk.inj e
   rw [l7 l6,← oB] at hk
   exact if_pos hk
  ·intro h
   simp only at h
   by_cases c:jC (eK l) a=true
   ·rw [if_pos c] at h
    exact ⟨a,(l7 l6).2 ((oB _ _).1 c),Prod.ext rfl (Option.some.inj h)⟩
   ·rw [if_neg c] at h
    cases h
set_option linter.unusedVariables false
def f217.kills (a:ByteArray×ByteArray):List Hint:=[]
def f217.cuts (a:ByteArray×ByteArray):List (Nat×Σ β:Type,β→Tm):=[]
def f217.af (a:ByteArray×ByteArray):AF:=AF.mk (.seq (.region [⟨(some 4),0,.move,[.c (.bool false)],none⟩])
 (.seq (.region [oT 5 1 .move [0],
 oT 6 2 (.call false 200) [5],
 oT 7 6 .move [6],
 oG 8 7 .move [1] 7 true,
 oG 9 8 (.call false 200) [8] 7 true,
 oG 10 12 (.un .not) [9] 7 true,
 ⟨(some 11),13,.pick,[.t 7,.t 10,.c (.bool false)],none⟩,
 oT 12 14 .move [11],
 oG 13 15 .move [0] 12 false,
 oG 14 16 .move [1] 12 false,
 oG 15 17 (.bin .lss) [13,14] 12 false,
 ⟨(some 16),18,.pick,[.t 12,.c (.bool true),.t 15],none⟩,
 oT 4 19 .move [16]])
 (.ret)))
 [.tmp 4] 0 15
def f217.env:Env:=[(200,f200.C)]
def f217.tree (a:ByteArray×ByteArray):Prop:=∃ c1:ByteArray,(a.1=c1)∧True∧Br ((fun _:ByteArray=>false) c1) (∃ c4:ByteArray,(a.2=c4)∧True∧Br (!((fun _:ByteArray=>false) c4)) ((true=(bM a))∧True) (((Op.bytesLess a.1.toList a.2.toList)=(bM a))∧True)) (((Op.bytesLess a.1.toList a.2.toList)=(bM a))∧True)
def f217.vc (a:ByteArray×ByteArray):Prop:=((((fun _:ByteArray=>false) (a.1))=true→((¬(((fun _:ByteArray=>false) (a.2))=true)→(true=bM a))∧(¬(¬(((fun _:ByteArray=>false) (a.2))=true))→(Op.bytesLess a.1.toList a.2.toList=bM a))))∧(¬(((fun _:ByteArray=>false) (a.1))=true)→(Op.bytesLess a.1.toList a.2.toList=bM a)))
theorem f217.of (a:ByteArray×ByteArray) (h:f217.vc a):f217.tree a:=⟨a.1,⟨rfl,⟨trivial,br h Cnd.b (fun h2 k13=>⟨a.2,⟨rfl,⟨trivial,br k13 (Cnd.not Cnd.b) (fun h5 k9=>⟨k9,trivial⟩) (fun h6 k10=>⟨k10,trivial⟩)⟩⟩⟩) (fun h3 k14=>⟨k14,trivial⟩)⟩⟩⟩
theorem f217.eq (a:ByteArray×ByteArray):(f217.af a).gives f217.env (f217.args a) (f217.blks a) (f217.res a) (f217.blks' a)=f217.tree a:=by kernel_rfl
def f384.ent (K:(List (aB))→Prop) (t:List (aB)):Prop:=∃ c:List (aB),SlQ t.length c.length (gl aD t) (gl aD c) (K c)
theorem f384.ei {K:(List (aB))→Prop} {t:List (aB)} (h:K t):f384.ent K t:=⟨t,slQ (rS aD) (h)⟩
def f384.args (a:List (aB)):List D:=[.slice .ro 2 a.length (gl aD a)]
def f384.blks (a:List (aB)):List (List D):=[]
def f384.res (a:List (aB)):List D:=[.bool (jG a)]
def f384.blks' (a:List (aB)):List (List D):=[]
def f384.C:aL:=FnC f384.args f384.blks (fun a=>eY a) f384.res f384.blks'
def f384.S0 (a:List (aB)) (x:Int):Tm:=⟨[.slice .ro 2 a.length (gl aD a),.dead,.dead,.dead,.dead,.dead,.dead,.dead,.int .i64 (a.length:Int),.int .i64 x,.dead,.dead,.dead,.dead,.dead,.dead,.dead,.dead,.dead,.dead,.dead,.dead,.dead,.dead,.dead,.dead,.dead],[],[]⟩
def f384.kills (a:List (aB)):List Hint:=[.tell Int (f384.S0 a)]
def f384.cuts (a:List (aB)):List (Nat×Σ β:Type,β→Tm):=[]
def f384.af (a:List (aB)):AF:=AF.mk (.seq (.region [⟨(some 2),0,.move,[.c (.bool false)],none⟩])
 (.seq (.seq (.region [oT 4 1 .move [0],
 oT 5 2 (.len false) [4],
 ⟨(some 6),3,(.bin .gtr),[.t 5,.c (.int .i64 (300))],none⟩])
 (.cond (.t 6) (.seq (.region [⟨(some 2),4,.move,[.c (.bool false)],none⟩])
 (.ret)) (.skip)))
 (.seq (.seq (.region [oT 7 5 .move [0],
 oT 8 6 (.len false) [7],
 ⟨(some 9),7,.move,[.c (.int .i64 (0))],none⟩])
 (.block 0 (.loopT Int (f384.S0 a) 8 28 (.seq (.region [oT 10 8 (.bin .lss) [9,8]])
 (.seq (.cond (.t 10) (.skip) (.exit 0))
 (.seq (.block 1 (.seq (.region [oT 11 9 .move [9],
 oT 3 10 .move [11]])
 (.seq (.region [oT 12 11 .move [0],
 oT 13 12 .move [3],
 oT 14 13 (.indexAddr 2 none) [12,13],
 oT 15 14 (.fieldAddr 0) [14],
 oT 16 15 (.load false 1) [15],
 oT 17 16 (.len true) [16],
 oT 18 17 .move [0],
 oT 19 18 .move [3],
 oT 20 19 (.indexAddr 2 none) [18,19],
 oT 21 20 (.fieldAddr 1) [20],
 oT 22 21 (.load false 1) [21],
 oT 23 22 (.len true) [22],
 oT 24 23 (.bin .add) [17,23],
 ⟨(some 25),24,(.bin .gtr),[.t 24,.c (.int .i64 (1000))],none⟩])
 (.cond (.t 25) (.seq (.region [⟨(some 2),25,.move,[.c (.bool false)],none⟩])
 (.ret)) (.skip)))))
 (.region [⟨(some 26),26,(.bin .add),[.t 9,.c (.int .i64 (1))],none⟩,
 oT 9 27 .move [26]])))))))
 (.seq (.region [⟨(some 2),28,.move,[.c (.bool true)],none⟩])
 (.ret)))))
 [.tmp 2] 0 26
def f384.env:Env:=[]
def f384.tree (a:List (aB)):Prop:=Br (decide ((300:Int) < (a.length:Int))) ((false=(jG a))∧True) (∃ (I5:Int→Prop) (μ6:Int→Nat),(∃ x4:Int,SlS aD a (((a.length:Int)=(a.length:Int))∧((0:Int)=x4)∧I5 x4))∧∀ y7:Int,I5 y7→(Br (decide (y7 < (a.length:Int))) (Br (decide ((0:Int)≤y7)&&decide (y7 < (a.length:Int))) (Br (decide ((0:Int)≤y7)&&decide (y7 < (a.length:Int))) (Let (wI ((((at_ a y7).1).size:Int)+(((at_ a y7).2).size:Int))) (fun v12:Int=>Br (decide ((1000:Int) < v12)) ((false=(jG a))∧True) (Let (wI (y7+(1:Int))) (fun v16:Int=>∃ x17:Int,SlS aD a (((a.length:Int)=(a.length:Int))∧(v16=x17)∧I5 x17∧μ6 x17 < μ6 y7))))) False) False) ((true=(jG a))∧True)))
def f384.vc (a:List (aB)):Prop:=(((300:Int) < (a.length:Int)→(false=jG a))∧(¬((300:Int) < (a.length:Int))→(∃ (I5:Int→Prop) (μ6:Int→Nat),I5 (0:Int)∧∀ y7:Int,I5 y7→((y7 < (a.length:Int)→((0:Int)≤y7∧y7 < (a.length:Int)∧((0:Int)≤y7∧y7 < (a.length:Int)∧(-9223372036854775808≤((((at_ a y7).1).size:Int)+(((at_ a y7).2).size:Int))∧((((at_ a y7).1).size:Int)+(((at_ a y7).2).size:Int))≤9223372036854775807∧(((1000:Int) < ((((at_ a y7).1).size:Int)+(((at_ a y7).2).size:Int))→(false=jG a))∧(¬((1000:Int) < ((((at_ a y7).1).size:Int)+(((at_ a y7).2).size:Int)))→(-9223372036854775808≤(y7+(1:Int))∧(y7+(1:Int))≤9223372036854775807∧(I5 (y7+(1:Int))∧μ6 (y7+(1:Int)) < μ6 y7))))))))∧(¬(y7 < (a.length:Int))→(true=jG a))))))
theorem f384.of (a:List (aB)) (h:f384.vc a):f384.tree a:=br h Cnd.dec (fun h1 k35=>⟨k35,trivial⟩) (fun h2 k36=>Exists.elim k36 (fun I5 h32_=>Exists.elim h32_ (fun μ6 h32=>⟨I5,μ6,⟨(0:Int),SlS.mk  (⟨rfl,⟨rfl,h32.1⟩⟩)⟩,fun y7 h34=>br (h32.2 y7 h34) Cnd.dec (fun h8 k30=>chk k30.2.2 Cnd.ix ⟨k30.1,k30.2.1⟩ (fun h10 k28=>chk k28.2.2 Cnd.ix ⟨k28.1,k28.2.1⟩ (fun h11 k27=>wrapK.i64 k27 (fun h24 h25 k26=>br k26 Cnd.dec (fun h13 k22=>⟨k22,trivial⟩) (fun h14 k23=>wrapK.i64 k23 (fun h19 h20 k21=>⟨(y7+(1:Int)),SlS.mk  (⟨rfl,⟨rfl,k21⟩⟩)⟩)))))) (fun h9 k31=>⟨k31,trivial⟩)⟩)))
theorem f384.eq (a:List (aB)):(f384.af a).gives f384.env (f384.args a) (f384.blks a) (f384.res a) (f384.blks' a)=f384.tree a:=by kernel_rfl
def f385.args (a:List (aB)):List D:=[.slice .ro 2 a.length (gl aD a)]
def f385.blks (a:List (aB)):List (List D):=[]
def f385.res (a:List (aB)):List D:=[.slice .ro 2 ((cE a).length) (gl aD (cE a))]
def f385.blks' (a:List (aB)):List (List D):=[]
def f385.C:aL:=FnC f385.args f385.blks (fun a=>L20 a) f385.res f385.blks'
def f385.S0 (a:List (aB)) (x:Int×(List (ByteArray×ByteArray))×(List (ByteArray))):Tm:=⟨[.dead,.dead,.dead,.mref 1000001,.msl 1000004 1 x.2.2.length,.dead,.dead,.dead,.dead,.dead,.dead,.dead,.dead,.slice .ro 2 a.length (gl aD a),.int .i64 (a.length:Int),.int .i64 x.1,.dead,.dead,.dead,.dead,.dead,.dead,.dead,.dead,.dead,.dead,.dead,.dead,.dead,.dead,.dead,.dead,.dead,.dead,.dead,.dead,.dead,.dead,.dead,.dead,.dead,.dead,.dead,.dead,.dead,.dead,.dead,.dead,.dead,.dead,.dead,.dead,.dead,.dead,.dead,.dead,.dead],[(1000001,false,[.dead,.mp false x.2.1.length (mks x.2.1) (mvs aA x.2.1)]),(1000004,false,[.dead,.arr true 1 x.2.2.length (gl aA x.2.2)])],[]⟩
def f385.S1 (a:List (aB)) (x:(List (aB))×(List (ByteArray))×Int×Int×(List (ByteArray×ByteArray))):Tm:=⟨[.dead,.dead,.dead,.mref 1000001,.dead,.dead,.dead,.dead,.dead,.slice (.own 1000045) 2 x.1.length (gl aD x.1),.dead,.dead,.dead,.dead,.dead,.dead,.dead,.dead,.dead,.dead,.dead,.dead,.dead,.dead,.dead,.dead,.dead,.dead,.dead,.dead,.dead,.dead,.dead,.dead,.dead,.dead,.dead,.dead,.dead,.dead,.dead,.slice .ro 1 x.2.1.length (gl aA x.2.1),.int .i64 x.2.2.1,.int .i64 x.2.2.2.1,.dead,.dead,.dead,.dead,.dead,.dead,.dead,.dead,.dead,.dead,.dead,.dead,.dead],[(1000001,false,[.dead,.mp false x.2.2.2.2.length (mks x.2.2.2.2) (mvs aA x.2.2.2.2)])],[(1000045,2,x.1.length)]⟩
def f385.kills (a:List (aB)):List Hint:=[.tell (Int×(List (ByteArray×ByteArray))×(List (ByteArray))) (f385.S0 a),
 .tell ((List (aB))×(List (ByteArray))×Int×Int×(List (ByteArray×ByteArray))) (f385.S1 a)]
def f385.cuts (a:List (aB)):List (Nat×Σ β:Type,β→Tm):=[(999999,⟨Unit,fun x=>⟨[],[],[]⟩⟩),
 (1000004000002,⟨Unit,fun x=>⟨[],[],[]⟩⟩),
 (2000004000012,⟨Unit,fun x=>⟨[],[],[]⟩⟩)]
def f385.af (a:List (aB)):AF:=AF.mk (.seq (.region [oR 2 0 (.nilSl 2) []])
 (.seq (.region [oR 12 1 (.mkMap false false) [],
 oR 3 2 .move [12]])
 (.seq (.region [oR 4 3 (.nilSl 1) []])
 (.seq (.thaw 1000004 4) (.seq (.seq (.region [oR 13 5 .move [0],
 oR 14 6 (.len false) [13],
 ⟨(some 15),1000007,.move,[.c (.int .i64 (0))],none⟩])
 (.block 0 (.loopT (Int×(List (ByteArray×ByteArray))×(List (ByteArray))) (f385.S0 a) 1000008 1000040 (.seq (.region [oR 16 8 (.bin .lss) [15,14]])
 (.seq (.cond (.t 16) (.skip) (.exit 0))
 (.seq (.block 1 (.seq (.region [oR 17 9 (.indexAddr 2 none) [13,15],
 oR 18 10 (.load true 2) [17],
 oR 6 11 (.alloc [.str ByteArray.empty,.str ByteArray.empty]) [],
 ⟨none,1000014,(.store 2),[.t 6,.t 18],none⟩])
 (.seq (.seq (.region [oR 20 15 .move [3],
 oR 21 16 (.fieldAddr 0) [6],
 oR 22 17 (.load false 1) [21],
 oR 23 18 (.mapGet true false [.str ByteArray.empty]) [20,22],
 oR 19 19 .move [23],
 oR 24 20 (.extract 0) [19],
 oR 25 21 (.extract 1) [19],
 oR 7 22 .move [24],
 oR 8 23 .move [25]])
 (.seq (.region [oR 26 24 .move [8],
 oR 27 25 (.un .not) [26]])
 (.cond (.t 27) (.region [oR 28 26 .move [4],
 oR 29 27 (.fieldAddr 0) [6],
 oR 30 28 (.load false 1) [29],
 oR 31 29 (.buildSlice 1 1 [.str ByteArray.empty] [(0,1)]) [30],
 oR 32 30 (.append 1 16) [28,31],
 oR 4 31 .move [32]]) (.skip))))
 (.region [oR 33 32 .move [3],
 oR 34 33 (.fieldAddr 0) [6],
 oR 35 34 (.load false 1) [34],
 oR 36 35 (.fieldAddr 1) [6],
 oR 37 36 (.load false 1) [36],
 ⟨none,1000037,.mapSet,[.t 33,.t 35,.t 37],none⟩]))))
 (.region [⟨(some 38),1000038,(.bin .add),[.t 15,.c (.int .i64 (1))],none⟩,
 oR 15 39 .move [38]])))))))
 (.seq (.region [oR 39 40 .move [4],
 oR 40 41 (.call true 167) [39]])
 (.seq (.frz 4) (.seq (.region [oR 9 45 (.nilSl 2) []])
 (.seq (.seq (.region [oR 41 46 .move [4],
 oR 42 47 (.len false) [41],
 ⟨(some 43),1000048,.move,[.c (.int .i64 (0))],none⟩])
 (.block 2 (.loopT ((List (aB))×(List (ByteArray))×Int×Int×(List (ByteArray×ByteArray))) (f385.S1 a) 1000049 1000064 (.seq (.region [oR 44 49 (.bin .lss) [43,42]])
 (.seq (.cond (.t 44) (.skip) (.exit 2))
 (.seq (.block 3 (.seq (.region [oR 45 50 (.indexAddr 1 none) [41,43],
 oR 46 51 (.load false 1) [45],
 oR 11 52 .move [46]])
 (.region [oR 47 53 .move [9],
 oR 48 54 .move [11],
 oR 49 55 .move [3],
 oR 50 56 .move [11],
 oR 51 57 (.mapGet false false [.str ByteArray.empty]) [49,50],
 oR 52 58 (.build [.str ByteArray.empty,.str ByteArray.empty] [(0,1),(1,1)]) [48,51],
 oR 53 59 (.buildSlice 2 1 [.str ByteArray.empty,.str ByteArray.empty] [(0,2)]) [52],
 oR 54 60 (.append 2 32) [47,53],
 oR 9 61 .move [54]])))
 (.region [⟨(some 55),1000062,(.bin .add),[.t 43,.c (.int .i64 (1))],none⟩,
 oR 43 63 .move [55]])))))))
 (.seq (.region [oR 56 64 .move [9],
 oR 2 65 .move [56]])
 (.ret)))))))))))
 [.tmp 2] 0 56
def f385.env:Env:=[(167,f167.C)]
def f385.tree (a:List (aB)):Prop:=∃ (I2:(Int×(List (ByteArray×ByteArray))×(List (ByteArray)))→Prop) (μ3:(Int×(List (ByteArray×ByteArray))×(List (ByteArray)))→Nat),(∃ x1:Int×(List (ByteArray×ByteArray))×(List (ByteArray)),(0=x1.2.2.length)∧SlS aD a (((a.length:Int)=(a.length:Int))∧((0:Int)=x1.1)∧(0=x1.2.1.length)∧(∀ i,i < x1.2.1.length→(fun _=>.empty) i=(mks x1.2.1) i)∧(∀ i,i < x1.2.1.length→DEqs (gG i) ((mvs aA x1.2.1) i))∧SlQ 0 x1.2.2.length gG (gl aA x1.2.2) (I2 x1)))∧∀ y4:Int×(List (ByteArray×ByteArray))×(List (ByteArray)),I2 y4→(Br (decide (y4.1 < (a.length:Int))) (Br (decide ((0:Int)≤y4.1)&&decide (y4.1 < (a.length:Int))) (Br (jC y4.2.1 ((at_ a y4.1).1)) (Let (wI (y4.1+(1:Int))) (fun v10:Int=>∃ x11:Int×(List (ByteArray×ByteArray))×(List (ByteArray)),(y4.2.2.length=x11.2.2.length)∧SlS aD a (((a.length:Int)=(a.length:Int))∧(v10=x11.1)∧((mpN (mks y4.2.1) ((at_ a y4.1).1) y4.2.1.length)=x11.2.1.length)∧(∀ i,i < x11.2.1.length→(j7 (mks y4.2.1) ((at_ a y4.1).1) y4.2.1.length) i=(mks x11.2.1) i)∧(∀ i,i < x11.2.1.length→DEqs ((iZ (mks y4.2.1) (mvs aA y4.2.1) ((at_ a y4.1).1) [.str ((at_ a y4.1).2)] y4.2.1.length) i) ((mvs aA x11.2.1) i))∧SlQ y4.2.2.length x11.2.2.length (gl aA y4.2.2) (gl aA x11.2.2) (I2 x11∧μ3 x11 < μ3 y4)))) ((y4.2.2.length=y4.2.2.length∧rB ((y4.2.2.length+1) * 16))∧(Let (wI (y4.1+(1:Int))) (fun v16:Int=>∃ x17:Int×(List (ByteArray×ByteArray))×(List (ByteArray)),((y4.2.2.length+1)=x17.2.2.length)∧SlS aD a (((a.length:Int)=(a.length:Int))∧(v16=x17.1)∧((mpN (mks y4.2.1) ((at_ a y4.1).1) y4.2.1.length)=x17.2.1.length)∧(∀ i,i < x17.2.1.length→(j7 (mks y4.2.1) ((at_ a y4.1).1) y4.2.1.length) i=(mks x17.2.1) i)∧(∀ i,i < x17.2.1.length→DEqs ((iZ (mks y4.2.1) (mvs aA y4.2.1) ((at_ a y4.1).1) [.str ((at_ a y4.1).2)] y4.2.1.length) i) ((mvs aA x17.2.1) i))∧SlQ (y4.2.2.length+1) x17.2.2.length (gF (gl aA y4.2.2) y4.2.2.length (fun _=>[.str ((at_ a y4.1).1)])) (gl aA x17.2.2) (I2 x17∧μ3 x17 < μ3 y4)))))) False) ((y4.2.2.length=y4.2.2.length)∧∃ c25:List (ByteArray),(y4.2.2.length=List.length c25)∧SlQ y4.2.2.length c25.length (gl aA y4.2.2) (gl aA c25) ((lI c25)∧((List.length ((dN slt) c25))=y4.2.2.length)∧(∃ (I28:((List (aB))×(List (ByteArray))×Int×Int×(List (ByteArray×ByteArray)))→Prop) (μ29:((List (aB))×(List (ByteArray))×Int×Int×(List (ByteArray×ByteArray)))→Nat),(∃ x27:(List (aB))×(List (ByteArray))×Int×Int×(List (ByteArray×ByteArray)),SlQ 0 x27.1.length gG (gl aD x27.1) (SlQ (List.length ((dN slt) c25)) x27.2.1.length (gl aA ((dN slt) c25)) (gl aA x27.2.1) (((List.length ((dN slt) c25):Int)=x27.2.2.1)∧((0:Int)=x27.2.2.2.1)∧(y4.2.1.length=x27.2.2.2.2.length)∧(∀ i,i < x27.2.2.2.2.length→(mks y4.2.1) i=(mks x27.2.2.2.2) i)∧(∀ i,i < x27.2.2.2.2.length→DEqs ((mvs aA y4.2.1) i) ((mvs aA x27.2.2.2.2) i))∧(0=x27.1.length)∧I28 x27)))∧∀ y30:(List (aB))×(List (ByteArray))×Int×Int×(List (ByteArray×ByteArray)),I28 y30→(Br (decide (y30.2.2.2.1 < y30.2.2.1)) (Br (decide ((0:Int)≤y30.2.2.2.1)&&decide (y30.2.2.2.1 < (y30.2.1.length:Int))) (Br (jC y30.2.2.2.2 (at_ y30.2.1 y30.2.2.2.1)) ((y30.1.length=y30.1.length∧rB ((y30.1.length+1) * 32))∧(Let (wI (y30.2.2.2.1+(1:Int))) (fun v36:Int=>∃ x37:(List (aB))×(List (ByteArray))×Int×Int×(List (ByteArray×ByteArray)),SlQ (y30.1.length+1) x37.1.length (gF (gl aD y30.1) y30.1.length (fun _=>[.str (at_ y30.2.1 y30.2.2.2.1),.str (mat y30.2.2.2.2 (at_ y30.2.1 y30.2.2.2.1))])) (gl aD x37.1) (SlQ y30.2.1.length x37.2.1.length (gl aA y30.2.1) (gl aA x37.2.1) ((y30.2.2.1=x37.2.2.1)∧(v36=x37.2.2.2.1)∧(y30.2.2.2.2.length=x37.2.2.2.2.length)∧(∀ i,i < x37.2.2.2.2.length→(mks y30.2.2.2.2) i=(mks x37.2.2.2.2) i)∧(∀ i,i < x37.2.2.2.2.length→DEqs ((mvs aA y30.2.2.2.2) i) ((mvs aA x37.2.2.2.2) i))∧((y30.1.length+1)=x37.1.length)∧I28 x37∧μ29 x37 < μ29 y30))))) ((y30.1.length=y30.1.length∧rB ((y30.1.length+1) * 32))∧(Let (wI (y30.2.2.2.1+(1:Int))) (fun v42:Int=>∃ x43:(List (aB))×(List (ByteArray))×Int×Int×(List (ByteArray×ByteArray)),SlQ (y30.1.length+1) x43.1.length (gF (gl aD y30.1) y30.1.length (fun _=>[.str (at_ y30.2.1 y30.2.2.2.1),.str ByteArray.empty])) (gl aD x43.1) (SlQ y30.2.1.length x43.2.1.length (gl aA y30.2.1) (gl aA x43.2.1) ((y30.2.2.1=x43.2.2.1)∧(v42=x43.2.2.2.1)∧(y30.2.2.2.2.length=x43.2.2.2.2.length)∧(∀ i,i < x43.2.2.2.2.length→(mks y30.2.2.2.2) i=(mks x43.2.2.2.2) i)∧(∀ i,i < x43.2.2.2.2.length→DEqs ((mvs aA y30.2.2.2.2) i) ((mvs aA x43.2.2.2.2) i))∧((y30.1.length+1)=x43.1.length)∧I28 x43∧μ29 x43 < μ29 y30)))))) False) ((y30.1.length=y30.1.length)∧SlQ y30.1.length ((cE a).length) (gl aD y30.1) (gl aD (cE a)) (True)))))))
def f385.vc (a:List (aB)):Prop:=(∃ (I2:(Int×(List (ByteArray×ByteArray))×(List (ByteArray)))→Prop) (μ3:(Int×(List (ByteArray×ByteArray))×(List (ByteArray)))→Nat),I2 ((0:Int),[],[])∧∀ y4:Int×(List (ByteArray×ByteArray))×(List (ByteArray)),I2 y4→((y4.1 < (a.length:Int)→((0:Int)≤y4.1∧y4.1 < (a.length:Int)∧((jC y4.2.1 ((at_ a y4.1).1)=true→(-9223372036854775808≤(y4.1+(1:Int))∧(y4.1+(1:Int))≤9223372036854775807∧(I2 ((y4.1+(1:Int)),fD y4.2.1 ((at_ a y4.1).1) ((at_ a y4.1).2),y4.2.2)∧μ3 ((y4.1+(1:Int)),fD y4.2.1 ((at_ a y4.1).1) ((at_ a y4.1).2),y4.2.2) < μ3 y4)))∧(¬(jC y4.2.1 ((at_ a y4.1).1)=true)→(y4.2.2.length+1≤1073741824∧(-9223372036854775808≤(y4.1+(1:Int))∧(y4.1+(1:Int))≤9223372036854775807∧(I2 ((y4.1+(1:Int)),fD y4.2.1 ((at_ a y4.1).1) ((at_ a y4.1).2),y4.2.2++([(at_ a y4.1).1]))∧μ3 ((y4.1+(1:Int)),fD y4.2.1 ((at_ a y4.1).1) ((at_ a y4.1).2),y4.2.2++([(at_ a y4.1).1])) < μ3 y4)))))))∧(¬(y4.1 < (a.length:Int))→(lI y4.2.2∧((List.length ((dN slt) (y4.2.2)))=y4.2.2.length∧(∃ (I28:((List (aB))×(List (ByteArray))×Int×Int×(List (ByteArray×ByteArray)))→Prop) (μ29:((List (aB))×(List (ByteArray))×Int×Int×(List (ByteArray×ByteArray)))→Nat),I28 ([],((dN slt) (y4.2.2)),(List.length ((dN slt) (y4.2.2)):Int),(0:Int),y4.2.1)∧∀ y30:(List (aB))×(List (ByteArray))×Int×Int×(List (ByteArray×ByteArray)),I28 y30→((y30.2.2.2.1 < y30.2.2.1→((0:Int)≤y30.2.2.2.1∧y30.2.2.2.1 < (y30.2.1.length:Int)∧((jC y30.2.2.2.2 (at_ y30.2.1 y30.2.2.2.1)=true→(y30.1.length+1≤1073741824∧(-9223372036854775808≤(y30.2.2.2.1+(1:Int))∧(y30.2.2.2.1+(1:Int))≤9223372036854775807∧(I28 (y30.1++([(at_ y30.2.1 y30.2.2.2.1,mat y30.2.2.2.2 (at_ y30.2.1 y30.2.2.2.1))]),y30.2.1,y30.2.2.1,(y30.2.2.2.1+(1:Int)),y30.2.2.2.2)∧μ29 (y30.1++([(at_ y30.2.1 y30.2.2.2.1,mat y30.2.2.2.2 (at_ y30.2.1 y30.2.2.2.1))]),y30.2.1,y30.2.2.1,(y30.2.2.2.1+(1:Int)),y30.2.2.2.2) < μ29 y30))))∧(¬(jC y30.2.2.2.2 (at_ y30.2.1 y30.2.2.2.1)=true)→(y30.1.length+1≤1073741824∧(-9223372036854775808≤(y30.2.2.2.1+(1:Int))∧(y30.2.2.2.1+(1:Int))≤9223372036854775807∧(I28 (y30.1++([(at_ y30.2.1 y30.2.2.2.1,ByteArray.empty)]),y30.2.1,y30.2.2.1,(y30.2.2.2.1+(1:Int)),y30.2.2.2.2)∧μ29 (y30.1++([(at_ y30.2.1 y30.2.2.2.1,ByteArray.empty)]),y30.2.1,y30.2.2.1,(y30.2.2.2.1+(1:Int)),y30.2.2.2.2) < μ29 y30)))))))∧(¬(y30.2.2.2.1 < y30.2.2.1)→(y30.1=cE a)))))))))
theorem f385.of (a:List (aB)) (h:f385.vc a):f385.tree a:=Exists.elim h (fun I2 h60_=>Exists.elim h60_ (fun μ3 h60=>⟨I2,μ3,⟨((0:Int),[],[]),⟨(aY gG (Rds.nil (enc:=aA))),SlS.mk  (⟨rfl,⟨rfl,mpK Mds.nil (slQ (Rds.nil (enc:=aA)) (h60.1))⟩⟩)⟩⟩,fun y4 h62=>br (h60.2 y4 h62) Cnd.dec (fun h5 k58=>chk k58.2.2 Cnd.ix ⟨k58.1,k58.2.1⟩ (fun h7 k24=>br k24 Cnd.b (fun h8 k22=>wrapK.i64 k22 (fun h13 h14 k15=>⟨((y4.1+(1:Int)),fD y4.2.1 ((at_ a y4.1).1) ((at_ a y4.1).2),y4.2.2),⟨(aY (gl aA y4.2.2) (rS aA)),SlS.mk  (⟨rfl,⟨rfl,mpK (Mds.set (enc:=aA) (Mds.self (enc:=aA)) (DEqs.refl _)) (slQ (rS aA) (k15))⟩⟩)⟩⟩)) (fun h9 k23=>⟨⟨rfl,wG k23.1 (by decide)⟩,wrapK.i64 k23.2 (fun h19 h20 k21=>⟨((y4.1+(1:Int)),fD y4.2.1 ((at_ a y4.1).1) ((at_ a y4.1).2),y4.2.2++([(at_ a y4.1).1])),⟨(aY (gF (gl aA y4.2.2) y4.2.2.length (fun _=>[.str ((at_ a y4.1).1)])) (Rds.app (enc:=aA) (rS aA) (Rds.one (enc:=aA) (DEqs.refl _)))),SlS.mk  (⟨rfl,⟨rfl,mpK (Mds.set (enc:=aA) (Mds.self (enc:=aA)) (DEqs.refl _)) (slQ (Rds.app (enc:=aA) (rS aA) (Rds.one (enc:=aA) (DEqs.refl _))) (k21))⟩⟩)⟩⟩)⟩))) (fun h6 k59=>⟨rfl,⟨y4.2.2,⟨(aY (gl aA y4.2.2) (rS aA)),slQ (rS aA) (⟨k59.1,iE k59.2 (fun (h26:(List.length ((dN slt) (y4.2.2)))=y4.2.2.length) hk=>⟨h26,Exists.elim hk (fun I28 h54_=>Exists.elim h54_ (fun μ29 h54=>⟨I28,μ29,⟨([],((dN slt) (y4.2.2)),(List.length ((dN slt) (y4.2.2)):Int),(0:Int),y4.2.1),slQ (Rds.nil (enc:=aD)) (slQ (rS aA) (⟨rfl,⟨rfl,mpK (Mds.self (enc:=aA)) (⟨(aY gG (Rds.nil (enc:=aD))),h54.1⟩)⟩⟩))⟩,fun y30 h56=>br (h54.2 y30 h56) Cnd.dec (fun h31 k52=>chk k52.2.2 Cnd.ix ⟨k52.1,k52.2.1⟩ (fun h33 k50=>br k50 Cnd.b (fun h34 k48=>⟨⟨rfl,(wG k48.1 (by decide))⟩,wrapK.i64 k48.2 (fun h39 h40 k41=>⟨(y30.1++([(at_ y30.2.1 y30.2.2.2.1,mat y30.2.2.2.2 (at_ y30.2.1 y30.2.2.2.1))]),y30.2.1,y30.2.2.1,(y30.2.2.2.1+(1:Int)),y30.2.2.2.2),slQ (Rds.app (enc:=aD) (rS aD) (Rds.one (enc:=aD) (DEqs.refl _))) (slQ (rS aA) (⟨rfl,⟨rfl,mpK (Mds.self (enc:=aA)) (⟨(aY (gF (gl aD y30.1) y30.1.length (fun _=>[.str (at_ y30.2.1 y30.2.2.2.1),.str (mat y30.2.2.2.2 (at_ y30.2.1 y30.2.2.2.1))])) (Rds.app (enc:=aD) (rS aD) (Rds.one (enc:=aD) (DEqs.refl _)))),k41⟩)⟩⟩))⟩)⟩) (fun h35 k49=>⟨⟨rfl,(wG k49.1 (by decide))⟩,wrapK.i64 k49.2 (fun h45 h46 k47=>⟨(y30.1++([(at_ y30.2.1 y30.2.2.2.1,ByteArray.empty)]),y30.2.1,y30.2.2.1,(y30.2.2.2.1+(1:Int)),y30.2.2.2.2),slQ (Rds.app (enc:=aD) (rS aD) (Rds.one (enc:=aD) (DEqs.refl _))) (slQ (rS aA) (⟨rfl,⟨rfl,mpK (Mds.self (enc:=aA)) (⟨(aY (gF (gl aD y30.1) y30.1.length (fun _=>[.str (at_ y30.2.1 y30.2.2.2.1),.str ByteArray.empty])) (Rds.app (enc:=aD) (rS aD) (Rds.one (enc:=aD) (DEqs.refl _)))),k47⟩)⟩⟩))⟩)⟩))) (fun h32 k53=>⟨rfl,slQ (Rds.to (rS aD) k53) (trivial)⟩)⟩))⟩)⟩)⟩⟩⟩)⟩))
theorem f385.eq (a:List (aB)):(f385.af a).gives f385.env (f385.args a) (f385.blks a) (f385.res a) (f385.blks' a)=f385.tree a:=by kernel_rfl
def f387.ent (K:((List (aB))×ByteArray)→Prop) (t:(List (aB))×ByteArray):Prop:=∃ c:(List (aB))×ByteArray,SlQ t.1.length c.1.length (gl aD t.1) (gl aD c.1) ((t.2=c.2)∧K c)
theorem f387.ei {K:((List (aB))×ByteArray)→Prop} {t:(List (aB))×ByteArray} (h:K t):f387.ent K t:=⟨t,slQ (rS aD) (⟨rfl,h⟩)⟩
def f387.args (a:(List (aB))×ByteArray):List D:=[.slice .ro 2 a.1.length (gl aD a.1),.str a.2]
def f387.blks (a:(List (aB))×ByteArray):List (List D):=[]
def f387.res (a:(List (aB))×ByteArray):List D:=[.str ((cR a).1),.bool ((cR a).2)]
def f387.blks' (a:(List (aB))×ByteArray):List (List D):=[]
def f387.C:aL:=FnC f387.args f387.blks (fun a=>q5 a) f387.res f387.blks'
def f387.S0 (a:(List (aB))×ByteArray) (x:Int):Tm:=⟨[.dead,.str a.2,.dead,.dead,.dead,.dead,.dead,.dead,.slice .ro 2 a.1.length (gl aD a.1),.int .i64 (a.1.length:Int),.int .i64 x,.dead,.dead,.dead,.dead,.dead,.dead,.dead,.dead,.dead,.dead],[],[]⟩
def f387.kills (a:(List (aB))×ByteArray):List Hint:=[.tell Int (f387.S0 a)]
def f387.cuts (a:(List (aB))×ByteArray):List (Nat×Σ β:Type,β→Tm):=[]
def f387.af (a:(List (aB))×ByteArray):AF:=AF.mk (.seq (.region [⟨(some 4),0,.move,[.c (.str ByteArray.empty)],none⟩,
 ⟨(some 5),1,.move,[.c (.bool false)],none⟩])
 (.seq (.seq (.region [oT 8 2 .move [0],
 oT 9 3 (.len false) [8],
 ⟨(some 10),4,.move,[.c (.int .i64 (0))],none⟩])
 (.block 0 (.loopT Int (f387.S0 a) 5 22 (.seq (.region [oT 11 5 (.bin .lss) [10,9]])
 (.seq (.cond (.t 11) (.skip) (.exit 0))
 (.seq (.block 1 (.seq (.region [oT 12 6 (.indexAddr 2 none) [8,10],
 oT 13 7 (.load true 2) [12],
 oT 7 8 (.alloc [.str ByteArray.empty,.str ByteArray.empty]) [],
 ⟨none,11,(.store 2),[.t 7,.t 13],none⟩])
 (.seq (.region [oT 14 12 (.fieldAddr 0) [7],
 oT 15 13 (.load false 1) [14],
 oT 16 14 .move [1],
 oT 17 15 (.bin .eql) [15,16]])
 (.cond (.t 17) (.seq (.region [oT 18 16 (.fieldAddr 1) [7],
 oT 19 17 (.load false 1) [18],
 oT 4 18 .move [19],
 ⟨(some 5),19,.move,[.c (.bool true)],none⟩])
 (.ret)) (.skip)))))
 (.region [⟨(some 20),20,(.bin .add),[.t 10,.c (.int .i64 (1))],none⟩,
 oT 10 21 .move [20]])))))))
 (.seq (.region [⟨(some 4),22,.move,[.c (.str ByteArray.empty)],none⟩,
 ⟨(some 5),23,.move,[.c (.bool false)],none⟩])
 (.ret))))
 [.tmp 4,.tmp 5] 0 19
def f387.env:Env:=[]
def f387.tree (a:(List (aB))×ByteArray):Prop:=∃ (I2:Int→Prop) (μ3:Int→Nat),(∃ x1:Int,(a.2=a.2)∧SlS aD a.1 (((a.1.length:Int)=(a.1.length:Int))∧((0:Int)=x1)∧I2 x1))∧∀ y4:Int,I2 y4→(Br (decide (y4 < (a.1.length:Int))) (Br (decide ((0:Int)≤y4)&&decide (y4 < (a.1.length:Int))) (Br (((at_ a.1 y4).1).toList==a.2.toList) ((((at_ a.1 y4).2)=((cR a).1))∧(true=((cR a).2))∧True) (Let (wI (y4+(1:Int))) (fun v11:Int=>∃ x12:Int,(a.2=a.2)∧SlS aD a.1 (((a.1.length:Int)=(a.1.length:Int))∧(v11=x12)∧I2 x12∧μ3 x12 < μ3 y4)))) False) ((ByteArray.empty=((cR a).1))∧(false=((cR a).2))∧True))
def f387.vc (a:(List (aB))×ByteArray):Prop:=(∃ (I2:Int→Prop) (μ3:Int→Nat),I2 (0:Int)∧∀ y4:Int,I2 y4→((y4 < (a.1.length:Int)→((0:Int)≤y4∧y4 < (a.1.length:Int)∧((((at_ a.1 y4).1)=a.2→(((at_ a.1 y4).2,true)=cR a))∧(¬(((at_ a.1 y4).1)=a.2)→(-9223372036854775808≤(y4+(1:Int))∧(y4+(1:Int))≤9223372036854775807∧(I2 (y4+(1:Int))∧μ3 (y4+(1:Int)) < μ3 y4))))))∧(¬(y4 < (a.1.length:Int))→((ByteArray.empty,false)=cR a))))
theorem f387.of (a:(List (aB))×ByteArray) (h:f387.vc a):f387.tree a:=Exists.elim h (fun I2 h23_=>Exists.elim h23_ (fun μ3 h23=>⟨I2,μ3,⟨(0:Int),⟨rfl,SlS.mk  (⟨rfl,⟨rfl,h23.1⟩⟩)⟩⟩,fun y4 h25=>br (h23.2 y4 h25) Cnd.dec (fun h5 k21=>chk k21.2.2 Cnd.ix ⟨k21.1,k21.2.1⟩ (fun h7 k19=>br k19 Cnd.seq (fun h8 k17=>⟨(congrArg (fun x:ByteArray×Bool=>x.1) k17 :),⟨(congrArg (fun x:ByteArray×Bool=>x.2) k17 :),trivial⟩⟩) (fun h9 k18=>wrapK.i64 k18 (fun h14 h15 k16=>⟨(y4+(1:Int)),⟨rfl,SlS.mk  (⟨rfl,⟨rfl,k16⟩⟩)⟩⟩)))) (fun h6 k22=>⟨(congrArg (fun x:ByteArray×Bool=>x.1) k22 :),⟨(congrArg (fun x:ByteArray×Bool=>x.2) k22 :),trivial⟩⟩)⟩))
theorem f387.eq (a:(List (aB))×ByteArray):(f387.af a).gives f387.env (f387.args a) (f387.blks a) (f387.res a) (f387.blks' a)=f387.tree a:=by kernel_rfl
theorem f217.ok (a:ByteArray×ByteArray) (_:True):f217.vc a:=⟨fun c=>(by cases c),fun _=>rfl⟩
theorem aEH {l:List bK} {k:ByteArray} {i:Nat} (h:i < l.length) (e:(l.getD i default).1=k) (n:∀ j,j < i→(l.getD j default).1≠k):cR (l,k)=((l.getD i default).2,true):=by
 unfold cR
 have:l.find? (fun x=>decide (x.1=k))=some (l.getD i default):=by
  rw [List.find?_eq_some_iff_getElem]
  refine ⟨decide_eq_true e,i,h,(gP h).symm,fun j hj=>?_⟩
  have:=n j hj
  rw [gP (by omega)] at this
  rw [Bool.not_eq_true',decide_eq_false_iff_not]
  exact this
 simp only
 rw [this]
theorem aF5 {l:List bK} {k:ByteArray} (n:∀ j,j < l.length→(l.getD j default).1≠k):cR (l,k)=(ByteArray.empty,false):=by
 unfold cR
 have:l.find? (fun x=>decide (x.1=k))=none:=by
  rw [List.find?_eq_none]
  intro x hx hh
  obtain ⟨j,hj,rfl⟩:=List.mem_iff_getElem.1 hx
  have:=n j hj
  rw [gP hj] at this
  exact this (of_decide_eq_true hh)
 simp only
 rw [this]
theorem f387.ok (a:List bK×ByteArray) (h:q5 a):f387.vc a:=by
 obtain ⟨l,k⟩:=a
 have h:l.length≤1048576:=h
 refine ⟨fun y=>0≤y∧y≤(l.length:Int)∧∀ j,j < y.toNat→(l.getD j default).1≠k,fun y=>l.length - y.toNat,⟨by omega,by omega,fun j hj=>absurd hj (Nat.not_lt_zero j)⟩,fun y hy=>?_⟩
 obtain ⟨g0,g1,g2⟩:=hy
 refine ⟨fun hlt=>⟨g0,hlt,fun c=>(aEH (l:=l) (i:=y.toNat) (by simp only at hlt; omega) c g2).symm,fun c=>⟨by omega,by omega,⟨by omega,by simp only at hlt; omega,fun j hj=>?_⟩,by simp only at hlt ⊢; omega⟩⟩,fun hge=>(aF5 fun j hj=>g2 j (by simp only at hge; omega)).symm⟩
 by_cases e:j=y.toNat
 ·rw [e]
  exact c
 ·exact g2 j (by omega)
theorem tI {l:List bK}:jG l=true↔l.length≤300∧∀ i,i < l.length→(l.getD i default).1.size+(l.getD i default).2.size≤1000:=by
 unfold jG
 simp only [Bool.and_eq_true,decide_eq_true_eq,List.all_eq_true,List.mem_range]
theorem sX {l:List bK} (h:¬jG l=true):false=jG l:=(Bool.eq_false_iff.2 h).symm
theorem f384.ok (a:List bK) (h:eY a):f384.vc a:=by
 refine ⟨fun c=>sX fun hh=>by have:=(tI.1 hh).1; omega,fun c=>?_⟩
 refine ⟨fun y=>0≤y∧y≤(a.length:Int)∧(∀ i,i < y.toNat→(a.getD i default).1.size+(a.getD i default).2.size≤1000),fun y=>a.length - y.toNat,⟨by omega,by omega,fun i hi=>by simp at hi⟩,fun y hy=>?_⟩
 obtain ⟨g0,g1,g2⟩:=hy
 refine ⟨fun hlt=>?_,fun hge=>?_⟩
 ·have n1:=h.2 _ (aCB g0 hlt)
  refine ⟨g0,hlt,g0,hlt,by omega,by omega,fun d=>sX fun hh=>?_,fun d=>⟨by omega,by omega,⟨by omega,by omega,fun i hi=>?_⟩,by simp only; omega⟩⟩
  ·have:=(tI.1 hh).2 y.toNat (by omega)
   rw [← xH] at this
   omega
  ·by_cases he:i=y.toNat
   ·subst he
    rw [← xH]
    omega
   ·exact g2 i (by omega)
 ·symm
  rw [tI]
  exact ⟨by omega,fun i hi=>g2 i (by omega)⟩
theorem pO (l:List ByteArray):dN slt l=i7 slt l:=aFO slt zN aH9 l
theorem vJ (l:List ByteArray):(dN slt l).length=l.length:=by rw [pO,o9]
theorem f385.ok (a:List bK) (h:L20 a):f385.vc a:=by
 have h:a.length≤1048576:=h
 refine ⟨fun y=>0≤y.1∧y.1≤(a.length:Int)∧y.2.1=eK (a.take y.1.toNat)∧y.2.2=y.2.1.map Prod.fst,fun y=>a.length - y.1.toNat,⟨by simp only; omega,by simp only; omega,rfl,rfl⟩,fun y hy=>?_⟩
 obtain ⟨i,m,keys⟩:=y
 obtain ⟨g0,g1,g2,g3⟩:=hy
 simp only at g0 g1 g2 g3 ⊢
 subst g3
 refine ⟨fun hlt=>?_,fun hge=>?_⟩
 ·have st:fD m (at_ a i).1 (at_ a i).2=eK (a.take (i+1).toNat):=by
   rw [show (i+1).toNat=i.toNat+1 from by omega,vF (by omega),jZ,← g2]
   rfl
  have hl:=wC (a.take i.toNat)
  rw [← g2,List.length_take] at hl
  refine ⟨g0,hlt,fun c=>⟨by omega,by omega,⟨by omega,by omega,st,?_⟩,by omega⟩,fun c=>⟨?_,by omega,by omega,⟨by omega,by omega,st,?_⟩,by omega⟩⟩
  ·rw [i9,if_pos c]
  ·rw [List.length_map]
   omega
  ·rw [i9,if_neg c]
 ·have e:a.take i.toNat=a:=List.take_of_length_le (by omega)
  rw [e] at g2
  subst g2
  have hl:=wC a
  refine ⟨?_,vJ _,?_⟩
  ·unfold lI
   rw [List.length_map]
   omega
  ·have hS:(dN slt ((eK a).map Prod.fst)).length=(eK a).length:=by rw [vJ,List.length_map]
   have hin:∀ x∈dN slt ((eK a).map Prod.fst),jC (eK a) x=true:=fun x hx=>by
    rw [pO,l7 l6] at hx
    exact (oB _ _).2 hx
   have hK:=y8 a
   rw [← pO] at hK
   generalize dN slt ((eK a).map Prod.fst)=S at hS hin hK ⊢
   refine ⟨fun y=>y.2.1=S∧y.2.2.1=(S.length:Int)∧0≤y.2.2.2.1∧y.2.2.2.1≤(S.length:Int)∧y.2.2.2.2=eK a∧y.1=(S.take y.2.2.2.1.toNat).map fun k=>(k,mat (eK a) k),fun y=>S.length - y.2.2.2.1.toNat,⟨rfl,rfl,by simp only; omega,by simp only; omega,rfl,rfl⟩,fun y hy=>?_⟩
   obtain ⟨out,ks,n,j,m⟩:=y
   obtain ⟨e1,e2,e3,e4,e5,e6⟩:=hy
   simp only at e1 e2 e3 e4 e5 e6 ⊢
   subst e1; subst e2; subst e5
   refine ⟨fun hlt=>⟨e3,hlt,fun c=>⟨?_,by omega,by omega,⟨rfl,rfl,by omega,by omega,rfl,?_⟩,by omega⟩,fun c=>absurd (hin _ (aCB e3 hlt)) c⟩,fun hge=>?_⟩
   ·rw [e6,List.length_map,List.length_take]
    omega
   ·rw [show (j+1).toNat=j.toNat+1 from by omega,vF (by omega),List.map_append,← e6]
    rfl
   ·rw [e6,List.take_of_length_le (by omega)]
    exact hK
end Go.Abs
