/- Functions, and what the code asks of them: PIdent. -/
import Derived.KernelRfl
import Derived.Test.YtjlehbennimkgaaIdentLabelsP4
import Derived.Test.YtjlehbennimkgaaIdentLabelsP5
import Derived.Test.YtjlehbennimkgaaIdentLabelsP6
import Derived.Test.YtjlehbennimkgaaIdentLabelsP9
import Derived.Test.YtjlehbennimkgaaIdentLabelsP11
import Derived.Test.YtjlehbennimkgaaIdentLabelsP13
import Derived.Test.YtjlehbennimkgaaIdentLabelsP14
import Derived.Test.YtjlehbennimkgaaIdentLabelsP15
import Derived.Test.YtjlehbennimkgaaIdentLabelsP16
import Derived.Test.YtjlehbennimkgaaIdentLabelsP17
import Derived.Test.YtjlehbennimkgaaIdentLabelsP20
import Derived.Test.YtjlehbennimkgaaIdentLabelsP21
import Derived.Test.YtjlehbennimkgaaIdentLabelsP22
import Derived.Test.YtjlehbennimkgaaIdentLabelsP23
set_option linter.unusedVariables false
set_option linter.unusedSimpArgs false
/- Labels by their keys: facts of lists. -/
namespace Go.Abs
open Go

theorem mJ {α:Type} {P:List α→Prop} (h0:P []) (h:∀ l x,P l→P (l++[x])) (l:List α):P l:=by
 have k:∀ l:List α,P l.reverse:=fun l=>by
  induction l with
  | nil=>exact h0
  | cons x l ih =>
   rw [List.reverse_cons]
   exact h _ _ ih
 have:=k l.reverse
 rwa [List.reverse_reverse] at this

theorem aDH (a:ByteArray):slt a a=false:=fZ _
theorem jE {a b c:ByteArray} (h1:slt a b=true) (h2:slt b c=true):slt a c=true:=hQ h1 h2
theorem lZ {a b:ByteArray} (h:slt a b=true):a≠b:=fun e=>by
 rw [e,aDH] at h
 cases h
theorem sF {a b:ByteArray} (h1:¬slt a b=true) (h2:a≠b):slt b a=true:=by
 rcases rQ.1 (Bool.eq_false_iff.2 h1) with h | h
 ·exact kI.2 h
 ·exact absurd h.symm h2

def SK (l:List a8):Prop:=l.Pairwise fun x y=>slt x.1 y.1=true
def pP (l:List a8) (k:ByteArray):Option ByteArray:=l.foldl (fun o x=>if x.1=k then some x.2 else o) none
theorem o9 (l:List a8) (x:a8) (k:ByteArray):pP (l++[x]) k=if x.1=k then some x.2 else pP l k:=by
 unfold pP
 rw [List.foldl_append]
 rfl
theorem gQ (l:List a8) (x:a8):bB (l++[x])=gC x (bB l):=by
 unfold bB
 rw [List.foldl_append]
 rfl

theorem sC (x z:a8):∀ {S:List a8},SK S→(z∈gC x S↔z=x∨(z∈S∧z.1≠x.1))
 | [],_=>by simp [gC]
 | y::S,h=>by
  obtain ⟨h1,h2⟩:=List.pairwise_cons.1 h
  unfold gC
  split
  next c =>
   rw [List.mem_cons,sC x z h2,List.mem_cons]
   constructor
   ·rintro (rfl | rfl | ⟨e,f⟩)
    ·exact .inr ⟨.inl rfl,lZ c⟩
    ·exact .inl rfl
    ·exact .inr ⟨.inr e,f⟩
   ·rintro (rfl | ⟨rfl | e,f⟩)
    ·exact .inr (.inl rfl)
    ·exact .inl rfl
    ·exact .inr (.inr ⟨e,f⟩)
  next c =>
   split
   next d =>
    rw [List.mem_cons,List.mem_cons]
    constructor
    ·rintro (rfl | e)
     ·exact .inl rfl
     ·exact .inr ⟨.inr e,fun k=>lZ (h1 z e) (d.trans k.symm)⟩
    ·rintro (rfl | ⟨rfl | e,f⟩)
     ·exact .inl rfl
     ·exact absurd d f
     ·exact .inr e
   next d =>
    have lt:=sF c d
    rw [List.mem_cons,List.mem_cons]
    constructor
    ·rintro (rfl | rfl | e)
     ·exact .inl rfl
     ·exact .inr ⟨.inl rfl,d⟩
     ·exact .inr ⟨.inr e,fun k=>lZ (jE lt (h1 z e)) k.symm⟩
    ·rintro (rfl | ⟨rfl | e,f⟩)
     ·exact .inl rfl
     ·exact .inr (.inl rfl)
     ·exact .inr (.inr e)

theorem aCR (x:a8):∀ {S:List a8},SK S→SK (gC x S)
 | [],_=>List.pairwise_cons.2 ⟨fun _ h=>absurd h List.not_mem_nil,List.Pairwise.nil⟩
 | y::S,h=>by
  obtain ⟨h1,h2⟩:=List.pairwise_cons.1 h
  unfold gC
  split
  next c =>
   refine List.pairwise_cons.2 ⟨fun z hz=>?_,aCR x h2⟩
   rcases (sC x z h2).1 hz with rfl | ⟨e,_⟩
   ·exact c
   ·exact h1 z e
  next c =>
   split
   next d =>
    refine List.pairwise_cons.2 ⟨fun z hz=>?_,h2⟩
    rw [← d]
    exact h1 z hz
   next d =>
    have lt:=sF c d
    refine List.pairwise_cons.2 ⟨fun z hz=>?_,h⟩
    rcases List.mem_cons.1 hz with rfl | hz
    ·exact lt
    ·exact jE lt (h1 z hz)

theorem nO (l:List a8):SK (bB l):=by
 induction l using mJ with
 | h0=>exact List.Pairwise.nil
 | h l x ih =>
  rw [gQ]
  exact aCR x ih

theorem aAP (l:List a8) (z:a8):z∈bB l↔pP l z.1=some z.2:=by
 induction l using mJ with
 | h0=>exact ⟨fun h=>absurd h List.not_mem_nil,fun h=>by cases h⟩
 | h l x ih =>
  rw [gQ,sC x z (nO l),o9,ih]
  obtain ⟨a,b⟩:=x
  obtain ⟨c,d⟩:=z
  simp only [Prod.mk.injEq]
  by_cases h:a=c
  ·rw [if_pos h,Option.some.injEq]
   constructor
   ·rintro (⟨_,e⟩ | ⟨_,e⟩)
    ·exact e.symm
    ·exact absurd h.symm e
   ·exact fun e=>.inl ⟨h.symm,e.symm⟩
  ·rw [if_neg h]
   constructor
   ·rintro (⟨e,_⟩ | ⟨e,_⟩)
    ·exact absurd e.symm h
    ·exact e
   ·exact fun e=>.inr ⟨e,fun k=>h k.symm⟩

theorem SK.key {S:List a8} (h:SK S) {x y:a8} (hx:x∈S) (hy:y∈S) (e:x.1=y.1):x=y:=by
 induction S with
 | nil=>cases hx
 | cons z S ih =>
  obtain ⟨h1,h2⟩:=List.pairwise_cons.1 h
  rcases List.mem_cons.1 hx with cx | cx
  ·rcases List.mem_cons.1 hy with cy | cy
   ·rw [cx,cy]
   ·rw [cx] at e
    exact absurd e (lZ (h1 y cy))
  ·rcases List.mem_cons.1 hy with cy | cy
   ·rw [cy] at e
    exact absurd e.symm (lZ (h1 x cx))
   ·exact ih h2 cx cy

theorem SK.uniq:∀ {S T:List a8},SK S→SK T→(∀ z,z∈S↔z∈T)→S=T
 | [],[],_,_,_=>rfl
 | [],y::T,_,_,e=>absurd ((e y).2 (List.mem_cons_self ..)) List.not_mem_nil
 | x::S,[],_,_,e=>absurd ((e x).1 (List.mem_cons_self ..)) List.not_mem_nil
 | x::S,y::T,h,k,e=>by
  obtain ⟨h1,h2⟩:=List.pairwise_cons.1 h
  obtain ⟨k1,k2⟩:=List.pairwise_cons.1 k
  have xy:x=y:=by
   rcases List.mem_cons.1 ((e x).1 (List.mem_cons_self ..)) with c | c
   ·exact c
   ·rcases List.mem_cons.1 ((e y).2 (List.mem_cons_self ..)) with d | d
    ·exact d.symm
    ·have:=jE (k1 x c) (h1 y d)
     rw [aDH] at this
     cases this
  subst xy
  refine congrArg (x::·) (SK.uniq h2 k2 fun z=>⟨fun hz=>?_,fun hz=>?_⟩)
  ·rcases List.mem_cons.1 ((e z).1 (List.mem_cons_of_mem _ hz)) with c | c
   ·exact absurd (congrArg Prod.fst c.symm) (lZ (h1 z hz))
   ·exact c
  ·rcases List.mem_cons.1 ((e z).2 (List.mem_cons_of_mem _ hz)) with c | c
   ·exact absurd (congrArg Prod.fst c.symm) (lZ (k1 z hz))
   ·exact c

theorem vF {x:a8}:∀ {S:List a8},(∀ y∈S,slt y.1 x.1=true)→gC x S=S++[x]
 | [],_=>rfl
 | y::S,h=>by
  unfold gC
  rw [if_pos (h y (List.mem_cons_self ..)),vF fun z hz=>h z (List.mem_cons_of_mem _ hz)]
  rfl

theorem t5 {x y:a8} (U:List a8) (h:¬slt y.1 x.1=true):∀ {T:List a8},(∀ z∈T,slt z.1 x.1=true)→gC x (T++y::U)=T++(if y.1=x.1 then x::U else x::y::U)
 | [],_=>by
  show gC x (y::U)=_
  unfold gC
  rw [if_neg h]
  rfl
 | z::T,k=>by
  show gC x (z::(T++y::U))=_
  unfold gC
  rw [if_pos (k z (List.mem_cons_self ..)),t5 U h fun q hq=>k q (List.mem_cons_of_mem _ hq)]
  rfl
theorem vM {x:a8} (y:a8):∀ {T:List a8},(∃ z∈T,¬slt z.1 x.1=true)→gC x (T++[y])=gC x T++[y]
 | [],h=>by
  obtain ⟨_,h,_⟩:=h
  cases h
 | z::T,h=>by
  show gC x (z::(T++[y]))=_
  unfold gC
  by_cases c:slt z.1 x.1=true
  ·rw [if_pos c,if_pos c,vM y]
   ·rfl
   ·obtain ⟨q,hq,k⟩:=h
    rcases List.mem_cons.1 hq with e | hq
    ·rw [e] at k
     exact absurd c k
    ·exact ⟨q,hq,k⟩
  ·rw [if_neg c,if_neg c]
   split <;> rfl
theorem sZ (x:a8):∀ S:List a8,(gC x S).length≤S.length+1
 | []=>Nat.le_refl _
 | y::S=>by
  unfold gC
  have:=sZ x S
  split
  ·rw [List.length_cons,List.length_cons]
   omega
  ·split <;> simp only [List.length_cons] <;> omega
theorem qO (l:List a8):(bB l).length≤l.length:=by
 induction l using mJ with
 | h0=>exact Nat.le_refl _
 | h l x ih =>
  have:=sZ x (bB l)
  rw [gQ,List.length_append,List.length_singleton]
  omega

theorem aHU {l:List a8} (h:SK l) {i j:Nat} (hij:i < j) (hj:j < l.length):slt (l.getD i default).1 (l.getD j default).1=true:=by
 have:=List.pairwise_iff_getElem.1 h i j (by omega) hj hij
 rwa [fB (by omega),fB hj]

/-! A map that is filled. -/
theorem aF4 (k:ByteArray):jH ([]:List a8) k=false:=decide_eq_false (Nat.lt_irrefl 0)
theorem fP (x:a8) (l:List a8) (k:ByteArray):jH (x::l) k=(decide (x.1=k) || jH l k):=by
 obtain ⟨a,b⟩:=x
 unfold jH
 rw [List.length_cons,lK]
 by_cases h:a=k
 ·rw [if_pos h,decide_eq_true (Nat.succ_pos _),decide_eq_true h]
  rfl
 ·rw [if_neg h,decide_eq_false h,Bool.false_or]
  exact decide_eq_decide.2 (by omega)
theorem kY (x:a8) (l:List a8) (k:ByteArray):mat (x::l) k=if x.1=k then x.2 else mat l k:=by
 obtain ⟨a,b⟩:=x
 unfold mat
 rw [List.length_cons,lK]
 by_cases h:a=k
 ·rw [if_pos h,if_pos h]
  rfl
 ·rw [if_neg h,if_neg h,List.getD_cons_succ]
theorem zK (k v q:ByteArray):∀ m:List a8,jH (fD m k v) q=(decide (k=q) || jH m q)
 | []=>by
  show jH [(k,v)] q=_
  rw [fP]
 | (a,b)::m=>by
  unfold fD
  by_cases h:a=k
  ·rw [if_pos h,fP,fP,h]
   simp only
   cases decide (k=q) <;> rfl
  ·rw [if_neg h,fP,zK k v q m,fP]
   simp only
   cases decide (k=q) <;> cases decide (a=q) <;> rfl
theorem aAR (k v q:ByteArray):∀ m:List a8,mat (fD m k v) q=if k=q then v else mat m q
 | []=>by
  show mat [(k,v)] q=_
  rw [kY]
 | (a,b)::m=>by
  unfold fD
  by_cases h:a=k
  ·rw [if_pos h,kY,kY,h]
   simp only
   split <;> rfl
  ·rw [if_neg h,kY,aAR k v q m,kY]
   simp only
   by_cases c:k=q
   ·rw [if_pos c,if_pos c,if_neg fun e=>h (e.trans c.symm)]
   ·rw [if_neg c,if_neg c]
theorem pD (m:List a8) (k:ByteArray):jH m k=true↔k∈m.map Prod.fst:=by
 induction m with
 | nil=>simp [aF4]
 | cons x m ih =>
  rw [fP,Bool.or_eq_true,decide_eq_true_eq,ih,List.map_cons,List.mem_cons]
  exact or_congr ⟨Eq.symm,Eq.symm⟩ Iff.rfl
theorem iX (k v:ByteArray):∀ m:List a8,(fD m k v).map Prod.fst=if jH m k=true then m.map Prod.fst else m.map Prod.fst++[k]
 | []=>rfl
 | (a,b)::m=>by
  unfold fD
  rw [fP]
  by_cases h:a=k
  ·rw [if_pos h,if_pos (by rw [decide_eq_true h]; rfl),h]
   rfl
  ·rw [if_neg h,decide_eq_false h,Bool.false_or,List.map_cons,iX k v m]
   by_cases c:jH m k=true
   ·rw [if_pos c,if_pos c]
    rfl
   ·rw [if_neg c,if_neg c]
    rfl

def eG (l:List a8):List a8:=l.foldl (fun m x=>fD m x.1 x.2) []
theorem j8 (l:List a8) (x:a8):eG (l++[x])=fD (eG l) x.1 x.2:=by
 unfold eG
 rw [List.foldl_append]
 rfl
theorem aB0 (l:List a8) (k:ByteArray):pP l k=if jH (eG l) k=true then some (mat (eG l) k) else none:=by
 induction l using mJ with
 | h0=>rfl
 | h l x ih =>
  rw [o9,j8,zK,aAR,ih]
  by_cases c:x.1=k
  ·rw [if_pos c,if_pos c,decide_eq_true c,Bool.true_or,if_pos rfl]
  ·rw [if_neg c,if_neg c,decide_eq_false c,Bool.false_or]
theorem yV (l:List a8):((eG l).map Prod.fst).Nodup:=by
 induction l using mJ with
 | h0=>exact List.nodup_nil
 | h l x ih =>
  rw [j8,iX]
  by_cases c:jH (eG l) x.1=true
  ·rw [if_pos c]
   exact ih
  ·rw [if_neg c]
   refine List.nodup_append.2 ⟨ih,List.nodup_cons.2 ⟨List.not_mem_nil,List.nodup_nil⟩,fun a ha b hb=>?_⟩
   rw [List.mem_singleton.1 hb]
   exact fun e=>c ((pD _ _).2 (e ▸ ha))
theorem uZ (l:List a8):(eG l).length≤l.length:=by
 induction l using mJ with
 | h0=>exact Nat.le_refl _
 | h l x ih =>
  have e:=congrArg List.length (iX x.1 x.2 (eG l))
  rw [List.length_map] at e
  rw [j8,e,List.length_append,List.length_singleton]
  split
  ·rw [List.length_map]
   omega
  ·rw [List.length_append,List.length_map,List.length_singleton]
   omega

theorem mG:Weak slt:=⟨fun h=>sU h,fun {x y z} h1 h2=>Bool.eq_false_iff.2 fun h=>by
 rcases rQ.1 h1 with c | c
 ·rw [jE h (kI.2 c)] at h2
  cases h2
 ·rw [c,h2] at h
  cases h⟩
theorem qU (x:ByteArray):∀ {S:List ByteArray},(S.Pairwise fun a b=>slt a b=true)→(∀ y∈S,y≠x)→(sV slt x S).Pairwise fun a b=>slt a b=true
 | [],_,_=>List.pairwise_cons.2 ⟨fun _ h=>absurd h List.not_mem_nil,List.Pairwise.nil⟩
 | y::S,h,k=>by
  obtain ⟨h1,h2⟩:=List.pairwise_cons.1 h
  unfold sV
  split
  next c =>
   refine List.pairwise_cons.2 ⟨fun z hz=>?_,qU x h2 fun z hz=>k z (List.mem_cons_of_mem _ hz)⟩
   rcases List.mem_cons.1 (FE.mem mG (rR mG x S) hz) with rfl | hz
   ·exact c
   ·exact h1 z hz
  next c =>
   have lt:=sF c (k y (List.mem_cons_self ..))
   refine List.pairwise_cons.2 ⟨fun z hz=>?_,h⟩
   rcases List.mem_cons.1 hz with rfl | hz
   ·exact lt
   ·exact jE lt (h1 z hz)
theorem qW:∀ {l:List ByteArray},l.Nodup→(iZ slt l).Pairwise fun a b=>slt a b=true
 | [],_=>List.Pairwise.nil
 | x::l,h=>by
  obtain ⟨h1,h2⟩:=List.nodup_cons.1 h
  exact qU x (qW h2) fun y hy e=>h1 (e ▸ (mW mG).1 hy)

theorem zM (l:List a8):((iZ slt ((eG l).map Prod.fst)).map fun k=>(k,mat (eG l) k))=bB l:=by
 refine SK.uniq ?_ (nO l) fun z=>?_
 ·unfold SK
  rw [List.pairwise_map]
  exact qW (yV l)
 ·rw [aAP,aB0,List.mem_map]
  obtain ⟨a,b⟩:=z
  constructor
  ·rintro ⟨k,hk,e⟩
   obtain ⟨rfl,rfl⟩:=Prod.mk.inj e
   rw [mW mG,← pD] at hk
   exact if_pos hk
  ·intro h
   simp only at h
   by_cases c:jH (eG l) a=true
   ·rw [if_pos c] at h
    exact ⟨a,(mW mG).2 ((pD _ _).1 c),Prod.ext rfl (Option.some.inj h)⟩
   ·rw [if_neg c] at h
    cases h
end Go.Abs

/- cmp.Less[string] -/
namespace Go.Abs
open Go
set_option linter.unusedVariables false
def f217.kills (a:ByteArray×ByteArray):List Hint:=[]
def f217.cuts (a:ByteArray×ByteArray):List (Nat×Σ β:Type,β→Tm):=[]
def f217.af (a:ByteArray×ByteArray):AF:=AF.mk (.seq (.region [⟨(some 4),0,.move,[.c (.bool false)],none⟩])
 (.seq (.region [oT 5 1 .move [0],
 oT 6 2 (.call false 200) [5],
 oT 7 6 .move [6],
 oG 8 7 .move [1] 7 true,
 oG 9 8 (.call false 200) [8] 7 true,
 oG 10 12 (.un .not) [9] 7 true,
 ⟨(some 11),13,.pick,[.t 7,.t 10,.c (.bool false)],none⟩,
 oT 12 14 .move [11],
 oG 13 15 .move [0] 12 false,
 oG 14 16 .move [1] 12 false,
 oG 15 17 (.bin .lss) [13,14] 12 false,
 ⟨(some 16),18,.pick,[.t 12,.c (.bool true),.t 15],none⟩,
 oT 4 19 .move [16]])
 (.ret)))
 [.tmp 4] 0 15
def f217.env:Env:=[(200,f200.C)]
def f217.tree (a:ByteArray×ByteArray):Prop:=∃ c1:ByteArray,(a.1=c1)∧True∧Br ((fun _:ByteArray=>false) c1) (∃ c4:ByteArray,(a.2=c4)∧True∧Br (!((fun _:ByteArray=>false) c4)) ((true=(bN a))∧True) (((Op.bytesLess a.1.toList a.2.toList)=(bN a))∧True)) (((Op.bytesLess a.1.toList a.2.toList)=(bN a))∧True)
def f217.vc (a:ByteArray×ByteArray):Prop:=((((fun _:ByteArray=>false) (a.1))=true→((¬(((fun _:ByteArray=>false) (a.2))=true)→(true=bN a))∧(¬(¬(((fun _:ByteArray=>false) (a.2))=true))→(Op.bytesLess a.1.toList a.2.toList=bN a))))∧(¬(((fun _:ByteArray=>false) (a.1))=true)→(Op.bytesLess a.1.toList a.2.toList=bN a)))
set_option maxRecDepth 100000 in
set_option maxHeartbeats 2000000 in
theorem f217.of (a:ByteArray×ByteArray) (h:f217.vc a):f217.tree a:=⟨a.1,⟨rfl,⟨trivial,br h Cnd.b (fun h2 k13=>⟨a.2,⟨rfl,⟨trivial,br k13 (Cnd.not Cnd.b) (fun h5 k9=>⟨k9,trivial⟩) (fun h6 k10=>⟨k10,trivial⟩)⟩⟩⟩) (fun h3 k14=>⟨k14,trivial⟩)⟩⟩⟩
theorem f217.eq (a:ByteArray×ByteArray):(f217.af a).gives f217.env (f217.args a) (f217.blks a) (f217.res a) (f217.blks' a)=f217.tree a:=by kernel_rfl
end Go.Abs

-- interregnum/interregnumlaw04.few
namespace Go.Abs
open Go
def f384.ent (K:(List (aA))→Prop) (t:List (aA)):Prop:=∃ c:List (aA),SlQ t.length c.length (gl aC t) (gl aC c) (K c)
theorem f384.ei {K:(List (aA))→Prop} {t:List (aA)} (h:K t):f384.ent K t:=⟨t,slQ (Rds.self (enc:=aC)) (h)⟩
def f384.args (a:List (aA)):List D:=[.slice .ro 2 a.length (gl aC a)]
def f384.blks (a:List (aA)):List (List D):=[]
def f384.res (a:List (aA)):List D:=[.bool (lH a)]
def f384.blks' (a:List (aA)):List (List D):=[]
def f384.C:aK:=FnC f384.args f384.blks (fun a=>hU a) f384.res f384.blks'
end Go.Abs

/- interregnum/interregnumlaw04.few -/
namespace Go.Abs
open Go
set_option linter.unusedVariables false
def f384.S0 (a:List (aA)) (x:Int):Tm:=⟨[.slice .ro 2 a.length (gl aC a),.dead,.dead,.dead,.dead,.dead,.dead,.dead,.int .i64 (a.length:Int),.int .i64 x,.dead,.dead,.dead,.dead,.dead,.dead,.dead,.dead,.dead,.dead,.dead,.dead,.dead,.dead,.dead,.dead,.dead],[],[]⟩
def f384.kills (a:List (aA)):List Hint:=[.tell Int (f384.S0 a)]
def f384.cuts (a:List (aA)):List (Nat×Σ β:Type,β→Tm):=[]
def f384.af (a:List (aA)):AF:=AF.mk (.seq (.region [⟨(some 2),0,.move,[.c (.bool false)],none⟩])
 (.seq (.seq (.region [oT 4 1 .move [0],
 oT 5 2 (.len false) [4],
 ⟨(some 6),3,(.bin .gtr),[.t 5,.c (.int .i64 (300))],none⟩])
 (.cond (.t 6) (.seq (.region [⟨(some 2),4,.move,[.c (.bool false)],none⟩])
 (.ret)) (.skip)))
 (.seq (.seq (.region [oT 7 5 .move [0],
 oT 8 6 (.len false) [7],
 ⟨(some 9),7,.move,[.c (.int .i64 (0))],none⟩])
 (.block 0 (.loopT Int (f384.S0 a) 8 28 (.seq (.region [oT 10 8 (.bin .lss) [9,8]])
 (.seq (.cond (.t 10) (.skip) (.exit 0))
 (.seq (.block 1 (.seq (.region [oT 11 9 .move [9],
 oT 3 10 .move [11]])
 (.seq (.region [oT 12 11 .move [0],
 oT 13 12 .move [3],
 oT 14 13 (.indexAddr 2 none) [12,13],
 oT 15 14 (.fieldAddr 0) [14],
 oT 16 15 (.load false 1) [15],
 oT 17 16 (.len true) [16],
 oT 18 17 .move [0],
 oT 19 18 .move [3],
 oT 20 19 (.indexAddr 2 none) [18,19],
 oT 21 20 (.fieldAddr 1) [20],
 oT 22 21 (.load false 1) [21],
 oT 23 22 (.len true) [22],
 oT 24 23 (.bin .add) [17,23],
 ⟨(some 25),24,(.bin .gtr),[.t 24,.c (.int .i64 (1000))],none⟩])
 (.cond (.t 25) (.seq (.region [⟨(some 2),25,.move,[.c (.bool false)],none⟩])
 (.ret)) (.skip)))))
 (.region [⟨(some 26),26,(.bin .add),[.t 9,.c (.int .i64 (1))],none⟩,
 oT 9 27 .move [26]])))))))
 (.seq (.region [⟨(some 2),28,.move,[.c (.bool true)],none⟩])
 (.ret)))))
 [.tmp 2] 0 26
def f384.env:Env:=[]
def f384.tree (a:List (aA)):Prop:=Br (decide ((300:Int) < (a.length:Int))) ((false=(lH a))∧True) (∃ (I5:Int→Prop) (μ6:Int→Nat),(∃ x4:Int,SlS aC a (((a.length:Int)=(a.length:Int))∧((0:Int)=x4)∧I5 x4))∧∀ y7:Int,I5 y7→(Br (decide (y7 < (a.length:Int))) (Br (decide ((0:Int)≤y7)&&decide (y7 < (a.length:Int))) (Br (decide ((0:Int)≤y7)&&decide (y7 < (a.length:Int))) (Let (IntKind.i64.wrap ((((at_ a y7).1).size:Int)+(((at_ a y7).2).size:Int))) (fun v12:Int=>Br (decide ((1000:Int) < v12)) ((false=(lH a))∧True) (Let (IntKind.i64.wrap (y7+(1:Int))) (fun v16:Int=>∃ x17:Int,SlS aC a (((a.length:Int)=(a.length:Int))∧(v16=x17)∧I5 x17∧μ6 x17 < μ6 y7))))) False) False) ((true=(lH a))∧True)))
def f384.vc (a:List (aA)):Prop:=(((300:Int) < (a.length:Int)→(false=lH a))∧(¬((300:Int) < (a.length:Int))→(∃ (I5:Int→Prop) (μ6:Int→Nat),I5 (0:Int)∧∀ y7:Int,I5 y7→((y7 < (a.length:Int)→((0:Int)≤y7∧y7 < (a.length:Int)∧((0:Int)≤y7∧y7 < (a.length:Int)∧(-9223372036854775808≤((((at_ a y7).1).size:Int)+(((at_ a y7).2).size:Int))∧((((at_ a y7).1).size:Int)+(((at_ a y7).2).size:Int))≤9223372036854775807∧(((1000:Int) < ((((at_ a y7).1).size:Int)+(((at_ a y7).2).size:Int))→(false=lH a))∧(¬((1000:Int) < ((((at_ a y7).1).size:Int)+(((at_ a y7).2).size:Int)))→(-9223372036854775808≤(y7+(1:Int))∧(y7+(1:Int))≤9223372036854775807∧(I5 (y7+(1:Int))∧μ6 (y7+(1:Int)) < μ6 y7))))))))∧(¬(y7 < (a.length:Int))→(true=lH a))))))
set_option maxRecDepth 100000 in
set_option maxHeartbeats 2000000 in
theorem f384.of (a:List (aA)) (h:f384.vc a):f384.tree a:=br h Cnd.dec (fun h1 k35=>⟨k35,trivial⟩) (fun h2 k36=>Exists.elim k36 (fun I5 h32_=>Exists.elim h32_ (fun μ6 h32=>⟨I5,μ6,⟨(0:Int),SlS.mk  (⟨rfl,⟨rfl,h32.1⟩⟩)⟩,fun y7 h34=>br (h32.2 y7 h34) Cnd.dec (fun h8 k30=>chk k30.2.2 Cnd.ix ⟨k30.1,k30.2.1⟩ (fun h10 k28=>chk k28.2.2 Cnd.ix ⟨k28.1,k28.2.1⟩ (fun h11 k27=>wrapK.i64 k27 (fun h24 h25 k26=>br k26 Cnd.dec (fun h13 k22=>⟨k22,trivial⟩) (fun h14 k23=>wrapK.i64 k23 (fun h19 h20 k21=>⟨(y7+(1:Int)),SlS.mk  (⟨rfl,⟨rfl,k21⟩⟩)⟩)))))) (fun h9 k31=>⟨k31,trivial⟩)⟩)))
theorem f384.eq (a:List (aA)):(f384.af a).gives f384.env (f384.args a) (f384.blks a) (f384.res a) (f384.blks' a)=f384.tree a:=by kernel_rfl
end Go.Abs

-- interregnum/ident.Sorted
namespace Go.Abs
open Go
def f385.ent (K:(List (aA))→Prop) (t:List (aA)):Prop:=∃ c:List (aA),SlQ t.length c.length (gl aC t) (gl aC c) (K c)
theorem f385.ei {K:(List (aA))→Prop} {t:List (aA)} (h:K t):f385.ent K t:=⟨t,slQ (Rds.self (enc:=aC)) (h)⟩
def f385.args (a:List (aA)):List D:=[.slice .ro 2 a.length (gl aC a)]
def f385.blks (a:List (aA)):List (List D):=[]
def f385.res (a:List (aA)):List D:=[.slice .ro 2 ((bB a).length) (gl aC (bB a))]
def f385.blks' (a:List (aA)):List (List D):=[]
def f385.C:aK:=FnC f385.args f385.blks (fun a=>L20 a) f385.res f385.blks'
end Go.Abs

/- interregnum/ident.Sorted -/
namespace Go.Abs
open Go
set_option linter.unusedVariables false
def f385.S0 (a:List (aA)) (x:Int×(List (ByteArray×ByteArray))×(List (ByteArray))):Tm:=⟨[.dead,.dead,.dead,.mref 1000001,.msl 1000004 1 (List.length x.2.2),.dead,.dead,.dead,.dead,.dead,.dead,.dead,.dead,.slice .ro 2 a.length (gl aC a),.int .i64 (a.length:Int),.int .i64 x.1,.dead,.dead,.dead,.dead,.dead,.dead,.dead,.dead,.dead,.dead,.dead,.dead,.dead,.dead,.dead,.dead,.dead,.dead,.dead,.dead,.dead,.dead,.dead,.dead,.dead,.dead,.dead,.dead,.dead,.dead,.dead,.dead,.dead,.dead,.dead,.dead,.dead,.dead,.dead,.dead,.dead],[(1000001,false,[.dead,.mp false (List.length x.2.1) (mks x.2.1) (mvs aB x.2.1)]),(1000004,false,[.dead,.arr true 1 (List.length x.2.2) (gl aB x.2.2)])],[]⟩
def f385.S1 (a:List (aA)) (x:(List (aA))×(List (ByteArray))×Int×Int×(List (ByteArray×ByteArray))):Tm:=⟨[.dead,.dead,.dead,.mref 1000001,.dead,.dead,.dead,.dead,.dead,.slice (.own 1000045) 2 x.1.length (gl aC x.1),.dead,.dead,.dead,.dead,.dead,.dead,.dead,.dead,.dead,.dead,.dead,.dead,.dead,.dead,.dead,.dead,.dead,.dead,.dead,.dead,.dead,.dead,.dead,.dead,.dead,.dead,.dead,.dead,.dead,.dead,.dead,.slice .ro 1 x.2.1.length (gl aB x.2.1),.int .i64 x.2.2.1,.int .i64 x.2.2.2.1,.dead,.dead,.dead,.dead,.dead,.dead,.dead,.dead,.dead,.dead,.dead,.dead,.dead],[(1000001,false,[.dead,.mp false (List.length x.2.2.2.2) (mks x.2.2.2.2) (mvs aB x.2.2.2.2)])],[(1000045,2,x.1.length)]⟩
def f385.kills (a:List (aA)):List Hint:=[.tell (Int×(List (ByteArray×ByteArray))×(List (ByteArray))) (f385.S0 a),
 .tell ((List (aA))×(List (ByteArray))×Int×Int×(List (ByteArray×ByteArray))) (f385.S1 a)]
def f385.cuts (a:List (aA)):List (Nat×Σ β:Type,β→Tm):=[(999999,⟨Unit,fun x=>⟨[],[],[]⟩⟩),
 (1000004000002,⟨Unit,fun x=>⟨[],[],[]⟩⟩),
 (2000004000012,⟨Unit,fun x=>⟨[],[],[]⟩⟩)]
def f385.af (a:List (aA)):AF:=AF.mk (.seq (.region [oT 2 1000000 (.nilSl 2) []])
 (.seq (.region [oT 12 1000001 (.mkMap false false) [],
 oT 3 1000002 .move [12]])
 (.seq (.region [oT 4 1000003 (.nilSl 1) []])
 (.seq (.thaw 1000004 4) (.seq (.seq (.region [oT 13 1000005 .move [0],
 oT 14 1000006 (.len false) [13],
 ⟨(some 15),1000007,.move,[.c (.int .i64 (0))],none⟩])
 (.block 0 (.loopT (Int×(List (ByteArray×ByteArray))×(List (ByteArray))) (f385.S0 a) 1000008 1000040 (.seq (.region [oT 16 1000008 (.bin .lss) [15,14]])
 (.seq (.cond (.t 16) (.skip) (.exit 0))
 (.seq (.block 1 (.seq (.region [oT 17 1000009 (.indexAddr 2 none) [13,15],
 oT 18 1000010 (.load true 2) [17],
 oT 6 1000011 (.alloc [.str ByteArray.empty,.str ByteArray.empty]) [],
 ⟨none,1000014,(.store 2),[.t 6,.t 18],none⟩])
 (.seq (.seq (.region [oT 20 1000015 .move [3],
 oT 21 1000016 (.fieldAddr 0) [6],
 oT 22 1000017 (.load false 1) [21],
 oT 23 1000018 (.mapGet true false [.str ByteArray.empty]) [20,22],
 oT 19 1000019 .move [23],
 oT 24 1000020 (.extract 0) [19],
 oT 25 1000021 (.extract 1) [19],
 oT 7 1000022 .move [24],
 oT 8 1000023 .move [25]])
 (.seq (.region [oT 26 1000024 .move [8],
 oT 27 1000025 (.un .not) [26]])
 (.cond (.t 27) (.region [oT 28 1000026 .move [4],
 oT 29 1000027 (.fieldAddr 0) [6],
 oT 30 1000028 (.load false 1) [29],
 oT 31 1000029 (.buildSlice 1 1 [.str ByteArray.empty] [(0,1)]) [30],
 oT 32 1000030 (.append 1 16) [28,31],
 oT 4 1000031 .move [32]]) (.skip))))
 (.region [oT 33 1000032 .move [3],
 oT 34 1000033 (.fieldAddr 0) [6],
 oT 35 1000034 (.load false 1) [34],
 oT 36 1000035 (.fieldAddr 1) [6],
 oT 37 1000036 (.load false 1) [36],
 ⟨none,1000037,.mapSet,[.t 33,.t 35,.t 37],none⟩]))))
 (.region [⟨(some 38),1000038,(.bin .add),[.t 15,.c (.int .i64 (1))],none⟩,
 oT 15 1000039 .move [38]])))))))
 (.seq (.region [oT 39 1000040 .move [4],
 oT 40 1000041 (.call true 167) [39]])
 (.seq (.frz 4) (.seq (.region [oT 9 1000045 (.nilSl 2) []])
 (.seq (.seq (.region [oT 41 1000046 .move [4],
 oT 42 1000047 (.len false) [41],
 ⟨(some 43),1000048,.move,[.c (.int .i64 (0))],none⟩])
 (.block 2 (.loopT ((List (aA))×(List (ByteArray))×Int×Int×(List (ByteArray×ByteArray))) (f385.S1 a) 1000049 1000064 (.seq (.region [oT 44 1000049 (.bin .lss) [43,42]])
 (.seq (.cond (.t 44) (.skip) (.exit 2))
 (.seq (.block 3 (.seq (.region [oT 45 1000050 (.indexAddr 1 none) [41,43],
 oT 46 1000051 (.load false 1) [45],
 oT 11 1000052 .move [46]])
 (.region [oT 47 1000053 .move [9],
 oT 48 1000054 .move [11],
 oT 49 1000055 .move [3],
 oT 50 1000056 .move [11],
 oT 51 1000057 (.mapGet false false [.str ByteArray.empty]) [49,50],
 oT 52 1000058 (.build [.str ByteArray.empty,.str ByteArray.empty] [(0,1),(1,1)]) [48,51],
 oT 53 1000059 (.buildSlice 2 1 [.str ByteArray.empty,.str ByteArray.empty] [(0,2)]) [52],
 oT 54 1000060 (.append 2 32) [47,53],
 oT 9 1000061 .move [54]])))
 (.region [⟨(some 55),1000062,(.bin .add),[.t 43,.c (.int .i64 (1))],none⟩,
 oT 43 1000063 .move [55]])))))))
 (.seq (.region [oT 56 1000064 .move [9],
 oT 2 1000065 .move [56]])
 (.ret)))))))))))
 [.tmp 2] 0 56
def f385.env:Env:=[(167,f167.C)]
def f385.tree (a:List (aA)):Prop:=∃ (I2:(Int×(List (ByteArray×ByteArray))×(List (ByteArray)))→Prop) (μ3:(Int×(List (ByteArray×ByteArray))×(List (ByteArray)))→Nat),(∃ x1:Int×(List (ByteArray×ByteArray))×(List (ByteArray)),(0=(List.length x1.2.2))∧SlS aC a (((a.length:Int)=(a.length:Int))∧((0:Int)=x1.1)∧(0=(List.length x1.2.1))∧(∀ i,i < (List.length x1.2.1)→(fun _=>.empty) i=(mks x1.2.1) i)∧(∀ i,i < (List.length x1.2.1)→DEqs (fW i) ((mvs aB x1.2.1) i))∧SlQ 0 (List.length x1.2.2) fW (gl aB x1.2.2) (I2 x1)))∧∀ y4:Int×(List (ByteArray×ByteArray))×(List (ByteArray)),I2 y4→(Br (decide (y4.1 < (a.length:Int))) (Br (decide ((0:Int)≤y4.1)&&decide (y4.1 < (a.length:Int))) (Br (jH y4.2.1 ((at_ a y4.1).1)) (Let (IntKind.i64.wrap (y4.1+(1:Int))) (fun v10:Int=>∃ x11:Int×(List (ByteArray×ByteArray))×(List (ByteArray)),((List.length y4.2.2)=(List.length x11.2.2))∧SlS aC a (((a.length:Int)=(a.length:Int))∧(v10=x11.1)∧((mpN (mks y4.2.1) ((at_ a y4.1).1) (List.length y4.2.1))=(List.length x11.2.1))∧(∀ i,i < (List.length x11.2.1)→(kK (mks y4.2.1) ((at_ a y4.1).1) (List.length y4.2.1)) i=(mks x11.2.1) i)∧(∀ i,i < (List.length x11.2.1)→DEqs ((i9 (mks y4.2.1) (mvs aB y4.2.1) ((at_ a y4.1).1) [.str ((at_ a y4.1).2)] (List.length y4.2.1)) i) ((mvs aB x11.2.1) i))∧SlQ (List.length y4.2.2) (List.length x11.2.2) (gl aB y4.2.2) (gl aB x11.2.2) (I2 x11∧μ3 x11 < μ3 y4)))) (((List.length y4.2.2)=(List.length y4.2.2)∧pY (((List.length y4.2.2)+1) * 16))∧(Let (IntKind.i64.wrap (y4.1+(1:Int))) (fun v16:Int=>∃ x17:Int×(List (ByteArray×ByteArray))×(List (ByteArray)),(((List.length y4.2.2)+1)=(List.length x17.2.2))∧SlS aC a (((a.length:Int)=(a.length:Int))∧(v16=x17.1)∧((mpN (mks y4.2.1) ((at_ a y4.1).1) (List.length y4.2.1))=(List.length x17.2.1))∧(∀ i,i < (List.length x17.2.1)→(kK (mks y4.2.1) ((at_ a y4.1).1) (List.length y4.2.1)) i=(mks x17.2.1) i)∧(∀ i,i < (List.length x17.2.1)→DEqs ((i9 (mks y4.2.1) (mvs aB y4.2.1) ((at_ a y4.1).1) [.str ((at_ a y4.1).2)] (List.length y4.2.1)) i) ((mvs aB x17.2.1) i))∧SlQ ((List.length y4.2.2)+1) (List.length x17.2.2) (eN (gl aB y4.2.2) (List.length y4.2.2) (fun _=>[.str ((at_ a y4.1).1)])) (gl aB x17.2.2) (I2 x17∧μ3 x17 < μ3 y4)))))) False) (((List.length y4.2.2)=(List.length y4.2.2))∧∃ c25:List (ByteArray),((List.length y4.2.2)=List.length c25)∧SlQ (List.length y4.2.2) (List.length c25) (gl aB y4.2.2) (gl aB c25) ((lA c25)∧((List.length ((dN slt) c25))=(List.length y4.2.2))∧(∃ (I28:((List (aA))×(List (ByteArray))×Int×Int×(List (ByteArray×ByteArray)))→Prop) (μ29:((List (aA))×(List (ByteArray))×Int×Int×(List (ByteArray×ByteArray)))→Nat),(∃ x27:(List (aA))×(List (ByteArray))×Int×Int×(List (ByteArray×ByteArray)),SlQ 0 x27.1.length fW (gl aC x27.1) (SlQ (List.length ((dN slt) c25)) x27.2.1.length (gl aB ((dN slt) c25)) (gl aB x27.2.1) (((List.length ((dN slt) c25):Int)=x27.2.2.1)∧((0:Int)=x27.2.2.2.1)∧((List.length y4.2.1)=(List.length x27.2.2.2.2))∧(∀ i,i < (List.length x27.2.2.2.2)→(mks y4.2.1) i=(mks x27.2.2.2.2) i)∧(∀ i,i < (List.length x27.2.2.2.2)→DEqs ((mvs aB y4.2.1) i) ((mvs aB x27.2.2.2.2) i))∧(0=x27.1.length)∧I28 x27)))∧∀ y30:(List (aA))×(List (ByteArray))×Int×Int×(List (ByteArray×ByteArray)),I28 y30→(Br (decide (y30.2.2.2.1 < y30.2.2.1)) (Br (decide ((0:Int)≤y30.2.2.2.1)&&decide (y30.2.2.2.1 < (y30.2.1.length:Int))) (Br (jH y30.2.2.2.2 (at_ y30.2.1 y30.2.2.2.1)) ((y30.1.length=y30.1.length∧pY ((y30.1.length+1) * 32))∧(Let (IntKind.i64.wrap (y30.2.2.2.1+(1:Int))) (fun v36:Int=>∃ x37:(List (aA))×(List (ByteArray))×Int×Int×(List (ByteArray×ByteArray)),SlQ (y30.1.length+1) x37.1.length (eN (gl aC y30.1) y30.1.length (fun _=>[.str (at_ y30.2.1 y30.2.2.2.1),.str (mat y30.2.2.2.2 (at_ y30.2.1 y30.2.2.2.1))])) (gl aC x37.1) (SlQ y30.2.1.length x37.2.1.length (gl aB y30.2.1) (gl aB x37.2.1) ((y30.2.2.1=x37.2.2.1)∧(v36=x37.2.2.2.1)∧((List.length y30.2.2.2.2)=(List.length x37.2.2.2.2))∧(∀ i,i < (List.length x37.2.2.2.2)→(mks y30.2.2.2.2) i=(mks x37.2.2.2.2) i)∧(∀ i,i < (List.length x37.2.2.2.2)→DEqs ((mvs aB y30.2.2.2.2) i) ((mvs aB x37.2.2.2.2) i))∧((y30.1.length+1)=x37.1.length)∧I28 x37∧μ29 x37 < μ29 y30))))) ((y30.1.length=y30.1.length∧pY ((y30.1.length+1) * 32))∧(Let (IntKind.i64.wrap (y30.2.2.2.1+(1:Int))) (fun v42:Int=>∃ x43:(List (aA))×(List (ByteArray))×Int×Int×(List (ByteArray×ByteArray)),SlQ (y30.1.length+1) x43.1.length (eN (gl aC y30.1) y30.1.length (fun _=>[.str (at_ y30.2.1 y30.2.2.2.1),.str ByteArray.empty])) (gl aC x43.1) (SlQ y30.2.1.length x43.2.1.length (gl aB y30.2.1) (gl aB x43.2.1) ((y30.2.2.1=x43.2.2.1)∧(v42=x43.2.2.2.1)∧((List.length y30.2.2.2.2)=(List.length x43.2.2.2.2))∧(∀ i,i < (List.length x43.2.2.2.2)→(mks y30.2.2.2.2) i=(mks x43.2.2.2.2) i)∧(∀ i,i < (List.length x43.2.2.2.2)→DEqs ((mvs aB y30.2.2.2.2) i) ((mvs aB x43.2.2.2.2) i))∧((y30.1.length+1)=x43.1.length)∧I28 x43∧μ29 x43 < μ29 y30)))))) False) ((y30.1.length=y30.1.length)∧SlQ y30.1.length ((bB a).length) (gl aC y30.1) (gl aC (bB a)) (True)))))))
def f385.vc (a:List (aA)):Prop:=(∃ (I2:(Int×(List (ByteArray×ByteArray))×(List (ByteArray)))→Prop) (μ3:(Int×(List (ByteArray×ByteArray))×(List (ByteArray)))→Nat),I2 ((0:Int),[],[])∧∀ y4:Int×(List (ByteArray×ByteArray))×(List (ByteArray)),I2 y4→((y4.1 < (a.length:Int)→((0:Int)≤y4.1∧y4.1 < (a.length:Int)∧((jH y4.2.1 ((at_ a y4.1).1)=true→(-9223372036854775808≤(y4.1+(1:Int))∧(y4.1+(1:Int))≤9223372036854775807∧(I2 ((y4.1+(1:Int)),fD y4.2.1 ((at_ a y4.1).1) ((at_ a y4.1).2),y4.2.2)∧μ3 ((y4.1+(1:Int)),fD y4.2.1 ((at_ a y4.1).1) ((at_ a y4.1).2),y4.2.2) < μ3 y4)))∧(¬(jH y4.2.1 ((at_ a y4.1).1)=true)→((List.length y4.2.2)+1≤1073741824∧(-9223372036854775808≤(y4.1+(1:Int))∧(y4.1+(1:Int))≤9223372036854775807∧(I2 ((y4.1+(1:Int)),fD y4.2.1 ((at_ a y4.1).1) ((at_ a y4.1).2),y4.2.2++([(at_ a y4.1).1]))∧μ3 ((y4.1+(1:Int)),fD y4.2.1 ((at_ a y4.1).1) ((at_ a y4.1).2),y4.2.2++([(at_ a y4.1).1])) < μ3 y4)))))))∧(¬(y4.1 < (a.length:Int))→(lA y4.2.2∧((List.length ((dN slt) (y4.2.2)))=(List.length y4.2.2)∧(∃ (I28:((List (aA))×(List (ByteArray))×Int×Int×(List (ByteArray×ByteArray)))→Prop) (μ29:((List (aA))×(List (ByteArray))×Int×Int×(List (ByteArray×ByteArray)))→Nat),I28 ([],((dN slt) (y4.2.2)),(List.length ((dN slt) (y4.2.2)):Int),(0:Int),y4.2.1)∧∀ y30:(List (aA))×(List (ByteArray))×Int×Int×(List (ByteArray×ByteArray)),I28 y30→((y30.2.2.2.1 < y30.2.2.1→((0:Int)≤y30.2.2.2.1∧y30.2.2.2.1 < (y30.2.1.length:Int)∧((jH y30.2.2.2.2 (at_ y30.2.1 y30.2.2.2.1)=true→(y30.1.length+1≤1073741824∧(-9223372036854775808≤(y30.2.2.2.1+(1:Int))∧(y30.2.2.2.1+(1:Int))≤9223372036854775807∧(I28 (y30.1++([(at_ y30.2.1 y30.2.2.2.1,mat y30.2.2.2.2 (at_ y30.2.1 y30.2.2.2.1))]),y30.2.1,y30.2.2.1,(y30.2.2.2.1+(1:Int)),y30.2.2.2.2)∧μ29 (y30.1++([(at_ y30.2.1 y30.2.2.2.1,mat y30.2.2.2.2 (at_ y30.2.1 y30.2.2.2.1))]),y30.2.1,y30.2.2.1,(y30.2.2.2.1+(1:Int)),y30.2.2.2.2) < μ29 y30))))∧(¬(jH y30.2.2.2.2 (at_ y30.2.1 y30.2.2.2.1)=true)→(y30.1.length+1≤1073741824∧(-9223372036854775808≤(y30.2.2.2.1+(1:Int))∧(y30.2.2.2.1+(1:Int))≤9223372036854775807∧(I28 (y30.1++([(at_ y30.2.1 y30.2.2.2.1,ByteArray.empty)]),y30.2.1,y30.2.2.1,(y30.2.2.2.1+(1:Int)),y30.2.2.2.2)∧μ29 (y30.1++([(at_ y30.2.1 y30.2.2.2.1,ByteArray.empty)]),y30.2.1,y30.2.2.1,(y30.2.2.2.1+(1:Int)),y30.2.2.2.2) < μ29 y30)))))))∧(¬(y30.2.2.2.1 < y30.2.2.1)→(y30.1=bB a)))))))))
set_option maxRecDepth 100000 in
set_option maxHeartbeats 2000000 in
theorem f385.of (a:List (aA)) (h:f385.vc a):f385.tree a:=Exists.elim h (fun I2 h60_=>Exists.elim h60_ (fun μ3 h60=>⟨I2,μ3,⟨((0:Int),[],[]),⟨(aV fW (Rds.nil (enc:=aB))),SlS.mk  (⟨rfl,⟨rfl,mpK Mds.nil (slQ (Rds.nil (enc:=aB)) (h60.1))⟩⟩)⟩⟩,fun y4 h62=>br (h60.2 y4 h62) Cnd.dec (fun h5 k58=>chk k58.2.2 Cnd.ix ⟨k58.1,k58.2.1⟩ (fun h7 k24=>br k24 Cnd.b (fun h8 k22=>wrapK.i64 k22 (fun h13 h14 k15=>⟨((y4.1+(1:Int)),fD y4.2.1 ((at_ a y4.1).1) ((at_ a y4.1).2),y4.2.2),⟨(aV (gl aB y4.2.2) (Rds.self (enc:=aB))),SlS.mk  (⟨rfl,⟨rfl,mpK (Mds.set (enc:=aB) (Mds.self (enc:=aB)) (DEqs.refl _)) (slQ (Rds.self (enc:=aB)) (k15))⟩⟩)⟩⟩)) (fun h9 k23=>⟨⟨rfl,mT k23.1 (by decide)⟩,wrapK.i64 k23.2 (fun h19 h20 k21=>⟨((y4.1+(1:Int)),fD y4.2.1 ((at_ a y4.1).1) ((at_ a y4.1).2),y4.2.2++([(at_ a y4.1).1])),⟨(aV (eN (gl aB y4.2.2) (List.length y4.2.2) (fun _=>[.str ((at_ a y4.1).1)])) (Rds.app (enc:=aB) (Rds.self (enc:=aB)) (Rds.one (enc:=aB) (DEqs.refl _)))),SlS.mk  (⟨rfl,⟨rfl,mpK (Mds.set (enc:=aB) (Mds.self (enc:=aB)) (DEqs.refl _)) (slQ (Rds.app (enc:=aB) (Rds.self (enc:=aB)) (Rds.one (enc:=aB) (DEqs.refl _))) (k21))⟩⟩)⟩⟩)⟩))) (fun h6 k59=>⟨rfl,⟨y4.2.2,⟨(aV (gl aB y4.2.2) (Rds.self (enc:=aB))),slQ (Rds.self (enc:=aB)) (⟨k59.1,iG k59.2 (fun (h26:(List.length ((dN slt) (y4.2.2)))=(List.length y4.2.2)) hk=>⟨h26,Exists.elim hk (fun I28 h54_=>Exists.elim h54_ (fun μ29 h54=>⟨I28,μ29,⟨([],((dN slt) (y4.2.2)),(List.length ((dN slt) (y4.2.2)):Int),(0:Int),y4.2.1),slQ (Rds.nil (enc:=aC)) (slQ (Rds.self (enc:=aB)) (⟨rfl,⟨rfl,mpK (Mds.self (enc:=aB)) (⟨(aV fW (Rds.nil (enc:=aC))),h54.1⟩)⟩⟩))⟩,fun y30 h56=>br (h54.2 y30 h56) Cnd.dec (fun h31 k52=>chk k52.2.2 Cnd.ix ⟨k52.1,k52.2.1⟩ (fun h33 k50=>br k50 Cnd.b (fun h34 k48=>⟨⟨rfl,(mT k48.1 (by decide))⟩,wrapK.i64 k48.2 (fun h39 h40 k41=>⟨(y30.1++([(at_ y30.2.1 y30.2.2.2.1,mat y30.2.2.2.2 (at_ y30.2.1 y30.2.2.2.1))]),y30.2.1,y30.2.2.1,(y30.2.2.2.1+(1:Int)),y30.2.2.2.2),slQ (Rds.app (enc:=aC) (Rds.self (enc:=aC)) (Rds.one (enc:=aC) (DEqs.refl _))) (slQ (Rds.self (enc:=aB)) (⟨rfl,⟨rfl,mpK (Mds.self (enc:=aB)) (⟨(aV (eN (gl aC y30.1) y30.1.length (fun _=>[.str (at_ y30.2.1 y30.2.2.2.1),.str (mat y30.2.2.2.2 (at_ y30.2.1 y30.2.2.2.1))])) (Rds.app (enc:=aC) (Rds.self (enc:=aC)) (Rds.one (enc:=aC) (DEqs.refl _)))),k41⟩)⟩⟩))⟩)⟩) (fun h35 k49=>⟨⟨rfl,(mT k49.1 (by decide))⟩,wrapK.i64 k49.2 (fun h45 h46 k47=>⟨(y30.1++([(at_ y30.2.1 y30.2.2.2.1,ByteArray.empty)]),y30.2.1,y30.2.2.1,(y30.2.2.2.1+(1:Int)),y30.2.2.2.2),slQ (Rds.app (enc:=aC) (Rds.self (enc:=aC)) (Rds.one (enc:=aC) (DEqs.refl _))) (slQ (Rds.self (enc:=aB)) (⟨rfl,⟨rfl,mpK (Mds.self (enc:=aB)) (⟨(aV (eN (gl aC y30.1) y30.1.length (fun _=>[.str (at_ y30.2.1 y30.2.2.2.1),.str ByteArray.empty])) (Rds.app (enc:=aC) (Rds.self (enc:=aC)) (Rds.one (enc:=aC) (DEqs.refl _)))),k47⟩)⟩⟩))⟩)⟩))) (fun h32 k53=>⟨rfl,slQ (Rds.to (Rds.self (enc:=aC)) k53) (trivial)⟩)⟩))⟩)⟩)⟩⟩⟩)⟩))
theorem f385.eq (a:List (aA)):(f385.af a).gives f385.env (f385.args a) (f385.blks a) (f385.res a) (f385.blks' a)=f385.tree a:=by kernel_rfl
end Go.Abs

-- interregnum/interregnumref04.Sorted
namespace Go.Abs
open Go
def f386.ent (K:(List (aA))→Prop) (t:List (aA)):Prop:=∃ c:List (aA),SlQ t.length c.length (gl aC t) (gl aC c) (K c)
theorem f386.ei {K:(List (aA))→Prop} {t:List (aA)} (h:K t):f386.ent K t:=⟨t,slQ (Rds.self (enc:=aC)) (h)⟩
def f386.args (a:List (aA)):List D:=[.slice .ro 2 a.length (gl aC a)]
def f386.blks (a:List (aA)):List (List D):=[]
def f386.res (a:List (aA)):List D:=[.slice .ro 2 ((bB a).length) (gl aC (bB a))]
def f386.blks' (a:List (aA)):List (List D):=[]
def f386.C:aK:=FnC f386.args f386.blks (fun a=>L20 a) f386.res f386.blks'
end Go.Abs

/- interregnum/interregnumref04.Sorted -/
namespace Go.Abs
open Go
set_option linter.unusedVariables false
def f386.S0 (a:List (aA)) (x:(List (aA))×Int):Tm:=⟨[.slice .ro 2 a.length (gl aC a),.dead,.dead,.slice .ro 2 x.1.length (gl aC x.1),.dead,.dead,.dead,.dead,.dead,.int .i64 (a.length:Int),.int .i64 x.2,.dead,.dead,.dead,.dead,.dead,.dead,.dead,.dead,.dead,.dead,.dead,.dead,.dead,.dead,.dead,.dead,.dead,.dead,.dead,.dead,.dead,.dead,.dead,.dead,.dead,.dead,.dead,.dead,.dead,.dead,.dead,.dead,.dead,.dead,.dead,.dead,.dead,.dead,.dead,.dead,.dead,.dead,.dead,.dead,.dead,.dead,.dead,.dead,.dead,.dead,.dead,.dead,.dead,.dead,.dead,.dead,.dead,.dead,.dead,.dead],[],[]⟩
def f386.S1 (a:List (aA)) (x:(List (aA))×Int×(List (aA))×Bool×Int×Int×Int):Tm:=⟨[.slice .ro 2 a.length (gl aC a),.dead,.dead,.slice .ro 2 x.1.length (gl aC x.1),.int .i64 x.2.1,.slice (.own 8) 2 x.2.2.1.length (gl aC x.2.2.1),.bool x.2.2.2.1,.dead,.dead,.int .i64 (a.length:Int),.int .i64 x.2.2.2.2.1,.dead,.dead,.dead,.int .i64 x.2.2.2.2.2.1,.int .i64 x.2.2.2.2.2.2,.dead,.dead,.dead,.dead,.dead,.dead,.dead,.dead,.dead,.dead,.dead,.dead,.dead,.dead,.dead,.dead,.dead,.dead,.dead,.dead,.dead,.dead,.dead,.dead,.dead,.dead,.dead,.dead,.dead,.dead,.dead,.dead,.dead,.dead,.dead,.dead,.dead,.dead,.dead,.dead,.dead,.dead,.dead,.dead,.dead,.dead,.dead,.dead,.dead,.dead,.dead,.dead,.dead,.dead,.dead],[],[(8,2,x.2.2.1.length)]⟩
def f386.kills (a:List (aA)):List Hint:=[.tell ((List (aA))×Int) (f386.S0 a),
 .tell ((List (aA))×Int×(List (aA))×Bool×Int×Int×Int) (f386.S1 a)]
def f386.cuts (a:List (aA)):List (Nat×Σ β:Type,β→Tm):=[(100016,⟨(List (aA))×Int×(List (aA))×Bool×Int×Int×Int×Int,fun x=>⟨[.slice .ro 2 a.length (gl aC a),.dead,.dead,.slice .ro 2 x.1.length (gl aC x.1),.int .i64 x.2.1,.slice (.own 8) 2 x.2.2.1.length (gl aC x.2.2.1),.bool x.2.2.2.1,.int .i64 x.2.2.2.2.1,.dead,.int .i64 (a.length:Int),.int .i64 x.2.2.2.2.2.1,.dead,.dead,.dead,.int .i64 x.2.2.2.2.2.2.1,.int .i64 x.2.2.2.2.2.2.2,.dead,.dead,.dead,.dead,.dead,.dead,.dead,.dead,.dead,.dead,.dead,.dead,.dead,.dead,.dead,.dead,.dead,.dead,.dead,.dead,.dead,.dead,.dead,.dead,.dead,.dead,.dead,.dead,.dead,.dead,.dead,.dead,.dead,.dead,.dead,.dead,.dead,.dead,.dead,.dead,.dead,.dead,.dead,.dead,.dead,.dead,.dead,.dead,.dead,.dead,.dead,.dead,.dead,.dead,.dead],[],[(8,2,x.2.2.1.length)]⟩⟩),
 (100014,⟨(List (aA))×Int×(List (aA))×Bool×Int×Int×Int,fun x=>⟨[.slice .ro 2 a.length (gl aC a),.dead,.dead,.slice .ro 2 x.1.length (gl aC x.1),.int .i64 x.2.1,.slice (.own 8) 2 x.2.2.1.length (gl aC x.2.2.1),.bool x.2.2.2.1,.dead,.dead,.int .i64 (a.length:Int),.int .i64 x.2.2.2.2.1,.dead,.dead,.dead,.int .i64 x.2.2.2.2.2.1,.int .i64 x.2.2.2.2.2.2,.dead,.dead,.dead,.dead,.dead,.dead,.dead,.dead,.dead,.dead,.dead,.dead,.dead,.dead,.dead,.dead,.dead,.dead,.dead,.dead,.dead,.dead,.dead,.dead,.dead,.dead,.dead,.dead,.dead,.dead,.dead,.dead,.dead,.dead,.dead,.dead,.dead,.dead,.dead,.dead,.dead,.dead,.dead,.dead,.dead,.dead,.dead,.dead,.dead,.dead,.dead,.dead,.dead,.dead,.dead],[],[(8,2,x.2.2.1.length)]⟩⟩),
 (100020,⟨(List (aA))×Int,fun x=>⟨[.slice .ro 2 a.length (gl aC a),.dead,.dead,.dead,.dead,.slice (.own 8) 2 x.1.length (gl aC x.1),.dead,.dead,.dead,.int .i64 (a.length:Int),.int .i64 x.2,.dead,.dead,.dead,.dead,.dead,.dead,.dead,.dead,.dead,.dead,.dead,.dead,.dead,.dead,.dead,.dead,.dead,.dead,.dead,.dead,.dead,.dead,.dead,.dead,.dead,.dead,.dead,.dead,.dead,.dead,.dead,.dead,.dead,.dead,.dead,.dead,.dead,.dead,.dead,.dead,.dead,.dead,.dead,.dead,.dead,.dead,.dead,.dead,.dead,.dead,.dead,.dead,.dead,.dead,.dead,.dead,.dead,.dead,.dead,.dead],[],[(8,2,x.1.length)]⟩⟩)]
def f386.af (a:List (aA)):AF:=AF.mk (.seq (.region [oT 2 0 (.nilSl 2) []])
 (.seq (.region [oT 3 1 (.nilSl 2) []])
 (.seq (.seq (.region [oT 8 2 .move [0],
 oT 9 3 (.len false) [8],
 ⟨(some 10),4,.move,[.c (.int .i64 (0))],none⟩])
 (.block 0 (.loopT ((List (aA))×Int) (f386.S0 a) 5 75 (.seq (.region [oT 11 5 (.bin .lss) [10,9]])
 (.seq (.cond (.t 11) (.skip) (.exit 0))
 (.seq (.block 1 (.seq (.region [oT 12 6 .move [10],
 oT 4 7 .move [12]])
 (.seq (.region [oT 5 8 (.nilSl 2) []])
 (.seq (.region [⟨(some 6),9,.move,[.c (.bool false)],none⟩])
 (.seq (.seq (.region [oT 13 10 .move [3],
 oT 14 11 (.len false) [13],
 ⟨(some 15),12,.move,[.c (.int .i64 (0))],none⟩])
 (.block 2 (.loopT ((List (aA))×Int×(List (aA))×Bool×Int×Int×Int) (f386.S1 a) 13 61 (.seq (.region [oT 16 13 (.bin .lss) [15,14]])
 (.seq (.cond (.t 16) (.skip) (.exit 2))
 (.joinT ((List (aA))×Int×(List (aA))×Bool×Int×Int×Int) (fun x=>⟨[.slice .ro 2 a.length (gl aC a),.dead,.dead,.slice .ro 2 x.1.length (gl aC x.1),.int .i64 x.2.1,.slice (.own 8) 2 x.2.2.1.length (gl aC x.2.2.1),.bool x.2.2.2.1,.dead,.dead,.int .i64 (a.length:Int),.int .i64 x.2.2.2.2.1,.dead,.dead,.dead,.int .i64 x.2.2.2.2.2.1,.int .i64 x.2.2.2.2.2.2,.dead,.dead,.dead,.dead,.dead,.dead,.dead,.dead,.dead,.dead,.dead,.dead,.dead,.dead,.dead,.dead,.dead,.dead,.dead,.dead,.dead,.dead,.dead,.dead,.dead,.dead,.dead,.dead,.dead,.dead,.dead,.dead,.dead,.dead,.dead,.dead,.dead,.dead,.dead,.dead,.dead,.dead,.dead,.dead,.dead,.dead,.dead,.dead,.dead,.dead,.dead,.dead,.dead,.dead,.dead],[],[(8,2,x.2.2.1.length)]⟩) (.block 3 (.seq (.region [oT 17 14 .move [15],
 oT 7 15 .move [17]])
 (.joinT ((List (aA))×Int×(List (aA))×Bool×Int×Int×Int×Int) (fun x=>⟨[.slice .ro 2 a.length (gl aC a),.dead,.dead,.slice .ro 2 x.1.length (gl aC x.1),.int .i64 x.2.1,.slice (.own 8) 2 x.2.2.1.length (gl aC x.2.2.1),.bool x.2.2.2.1,.int .i64 x.2.2.2.2.1,.dead,.int .i64 (a.length:Int),.int .i64 x.2.2.2.2.2.1,.dead,.dead,.dead,.int .i64 x.2.2.2.2.2.2.1,.int .i64 x.2.2.2.2.2.2.2,.dead,.dead,.dead,.dead,.dead,.dead,.dead,.dead,.dead,.dead,.dead,.dead,.dead,.dead,.dead,.dead,.dead,.dead,.dead,.dead,.dead,.dead,.dead,.dead,.dead,.dead,.dead,.dead,.dead,.dead,.dead,.dead,.dead,.dead,.dead,.dead,.dead,.dead,.dead,.dead,.dead,.dead,.dead,.dead,.dead,.dead,.dead,.dead,.dead,.dead,.dead,.dead,.dead,.dead,.dead],[],[(8,2,x.2.2.1.length)]⟩) (.seq (.region [oT 18 16 .move [6],
 oT 19 17 (.un .not) [18],
 oT 20 18 .move [19],
 oG 21 19 .move [3] 20 true,
 oG 22 20 .move [7] 20 true,
 oG 23 21 (.indexAddr 2 none) [21,22] 20 true,
 oG 24 22 (.fieldAddr 0) [23] 20 true,
 oG 25 23 (.load false 1) [24] 20 true,
 oG 26 24 .move [0] 20 true,
 oG 27 25 .move [4] 20 true,
 oG 28 26 (.indexAddr 2 none) [26,27] 20 true,
 oG 29 27 (.fieldAddr 0) [28] 20 true,
 oG 30 28 (.load false 1) [29] 20 true,
 oG 31 29 (.bin .geq) [25,30] 20 true,
 ⟨(some 32),30,.pick,[.t 20,.t 31,.c (.bool false)],none⟩])
 (.cond (.t 32) (.seq (.region [oT 33 31 .move [5],
 oT 34 32 .move [0],
 oT 35 33 .move [4],
 oT 36 34 (.indexAddr 2 none) [34,35],
 oT 37 35 (.load true 2) [36],
 oT 38 36 (.buildSlice 2 1 [.str ByteArray.empty,.str ByteArray.empty] [(0,2)]) [37],
 oT 39 37 (.append 2 32) [33,38],
 oT 5 38 .move [39]])
 (.region [⟨(some 6),39,.move,[.c (.bool true)],none⟩])) (.skip)))
 (.seq (.region [oT 40 40 .move [3],
 oT 41 41 .move [7],
 oT 42 42 (.indexAddr 2 none) [40,41],
 oT 43 43 (.fieldAddr 0) [42],
 oT 44 44 (.load false 1) [43],
 oT 45 45 .move [0],
 oT 46 46 .move [4],
 oT 47 47 (.indexAddr 2 none) [45,46],
 oT 48 48 (.fieldAddr 0) [47],
 oT 49 49 (.load false 1) [48],
 oT 50 50 (.bin .neq) [44,49]])
 (.cond (.t 50) (.region [oT 51 51 .move [5],
 oT 52 52 .move [3],
 oT 53 53 .move [7],
 oT 54 54 (.indexAddr 2 none) [52,53],
 oT 55 55 (.load true 2) [54],
 oT 56 56 (.buildSlice 2 1 [.str ByteArray.empty,.str ByteArray.empty] [(0,2)]) [55],
 oT 57 57 (.append 2 32) [51,56],
 oT 5 58 .move [57]]) (.skip))))))
 (.region [⟨(some 58),59,(.bin .add),[.t 15,.c (.int .i64 (1))],none⟩,
 oT 15 60 .move [58]])))))))
 (.joinT ((List (aA))×Int) (fun x=>⟨[.slice .ro 2 a.length (gl aC a),.dead,.dead,.dead,.dead,.slice (.own 8) 2 x.1.length (gl aC x.1),.dead,.dead,.dead,.int .i64 (a.length:Int),.int .i64 x.2,.dead,.dead,.dead,.dead,.dead,.dead,.dead,.dead,.dead,.dead,.dead,.dead,.dead,.dead,.dead,.dead,.dead,.dead,.dead,.dead,.dead,.dead,.dead,.dead,.dead,.dead,.dead,.dead,.dead,.dead,.dead,.dead,.dead,.dead,.dead,.dead,.dead,.dead,.dead,.dead,.dead,.dead,.dead,.dead,.dead,.dead,.dead,.dead,.dead,.dead,.dead,.dead,.dead,.dead,.dead,.dead,.dead,.dead,.dead,.dead],[],[(8,2,x.1.length)]⟩) (.seq (.region [oT 59 61 .move [6],
 oT 60 62 (.un .not) [59]])
 (.cond (.t 60) (.region [oT 61 63 .move [5],
 oT 62 64 .move [0],
 oT 63 65 .move [4],
 oT 64 66 (.indexAddr 2 none) [62,63],
 oT 65 67 (.load true 2) [64],
 oT 66 68 (.buildSlice 2 1 [.str ByteArray.empty,.str ByteArray.empty] [(0,2)]) [65],
 oT 67 69 (.append 2 32) [61,66],
 oT 5 70 .move [67]]) (.skip)))
 (.region [oT 68 71 .move [5],
 oT 3 72 .move [68]])))))))
 (.region [⟨(some 69),73,(.bin .add),[.t 10,.c (.int .i64 (1))],none⟩,
 oT 10 74 .move [69]])))))))
 (.seq (.region [oT 70 75 .move [3],
 oT 2 76 .move [70]])
 (.ret)))))
 [.tmp 2] 0 70
def f386.env:Env:=[]
def f386.tree (a:List (aA)):Prop:=∃ (I2:((List (aA))×Int)→Prop) (μ3:((List (aA))×Int)→Nat),(∃ x1:(List (aA))×Int,SlS aC a (SlQ 0 x1.1.length fW (gl aC x1.1) (((a.length:Int)=(a.length:Int))∧((0:Int)=x1.2)∧I2 x1)))∧∀ y4:(List (aA))×Int,I2 y4→(Br (decide (y4.2 < (a.length:Int))) (∃ (I8:((List (aA))×Int×(List (aA))×Bool×Int×Int×Int)→Prop) (μ9:((List (aA))×Int×(List (aA))×Bool×Int×Int×Int)→Nat),(∃ x7:(List (aA))×Int×(List (aA))×Bool×Int×Int×Int,SlS aC a (SlQ y4.1.length x7.1.length (gl aC y4.1) (gl aC x7.1) ((y4.2=x7.2.1)∧SlQ 0 x7.2.2.1.length fW (gl aC x7.2.2.1) ((false=x7.2.2.2.1)∧((a.length:Int)=(a.length:Int))∧(y4.2=x7.2.2.2.2.1)∧((y4.1.length:Int)=x7.2.2.2.2.2.1)∧((0:Int)=x7.2.2.2.2.2.2)∧(0=x7.2.2.1.length)∧I8 x7))))∧∀ y10:(List (aA))×Int×(List (aA))×Bool×Int×Int×Int,I8 y10→(Br (decide (y10.2.2.2.2.2.2 < y10.2.2.2.2.2.1)) (∃ I13:((List (aA))×Int×(List (aA))×Bool×Int×Int×Int)→Prop,(∃ I14:((List (aA))×Int×(List (aA))×Bool×Int×Int×Int×Int)→Prop,(Br (!y10.2.2.2.1) (Br (decide ((0:Int)≤y10.2.2.2.2.2.2)&&decide (y10.2.2.2.2.2.2 < (y10.1.length:Int))) (Br (decide ((0:Int)≤y10.2.1)&&decide (y10.2.1 < (a.length:Int))) (Br (!(Op.bytesLess ((at_ y10.1 y10.2.2.2.2.2.2).1).toList ((at_ a y10.2.1).1).toList)) (Br (decide ((0:Int)≤y10.2.1)&&decide (y10.2.1 < (a.length:Int))) ((y10.2.2.1.length=y10.2.2.1.length∧pY ((y10.2.2.1.length+1) * 32))∧(∃ x22:(List (aA))×Int×(List (aA))×Bool×Int×Int×Int×Int,SlS aC a (SlQ y10.1.length x22.1.length (gl aC y10.1) (gl aC x22.1) ((y10.2.1=x22.2.1)∧SlQ (y10.2.2.1.length+1) x22.2.2.1.length (eN (gl aC y10.2.2.1) y10.2.2.1.length (fun _=>[.str ((at_ a y10.2.1).1),.str ((at_ a y10.2.1).2)])) (gl aC x22.2.2.1) ((true=x22.2.2.2.1)∧(y10.2.2.2.2.2.2=x22.2.2.2.2.1)∧((a.length:Int)=(a.length:Int))∧(y10.2.2.2.2.1=x22.2.2.2.2.2.1)∧(y10.2.2.2.2.2.1=x22.2.2.2.2.2.2.1)∧(y10.2.2.2.2.2.2=x22.2.2.2.2.2.2.2)∧((y10.2.2.1.length+1)=x22.2.2.1.length)∧I14 x22))))) False) (∃ x24:(List (aA))×Int×(List (aA))×Bool×Int×Int×Int×Int,SlS aC a (SlQ y10.1.length x24.1.length (gl aC y10.1) (gl aC x24.1) ((y10.2.1=x24.2.1)∧SlQ y10.2.2.1.length x24.2.2.1.length (gl aC y10.2.2.1) (gl aC x24.2.2.1) ((y10.2.2.2.1=x24.2.2.2.1)∧(y10.2.2.2.2.2.2=x24.2.2.2.2.1)∧((a.length:Int)=(a.length:Int))∧(y10.2.2.2.2.1=x24.2.2.2.2.2.1)∧(y10.2.2.2.2.2.1=x24.2.2.2.2.2.2.1)∧(y10.2.2.2.2.2.2=x24.2.2.2.2.2.2.2)∧(y10.2.2.1.length=x24.2.2.1.length)∧I14 x24))))) False) False) (∃ x29:(List (aA))×Int×(List (aA))×Bool×Int×Int×Int×Int,SlS aC a (SlQ y10.1.length x29.1.length (gl aC y10.1) (gl aC x29.1) ((y10.2.1=x29.2.1)∧SlQ y10.2.2.1.length x29.2.2.1.length (gl aC y10.2.2.1) (gl aC x29.2.2.1) ((y10.2.2.2.1=x29.2.2.2.1)∧(y10.2.2.2.2.2.2=x29.2.2.2.2.1)∧((a.length:Int)=(a.length:Int))∧(y10.2.2.2.2.1=x29.2.2.2.2.2.1)∧(y10.2.2.2.2.2.1=x29.2.2.2.2.2.2.1)∧(y10.2.2.2.2.2.2=x29.2.2.2.2.2.2.2)∧(y10.2.2.1.length=x29.2.2.1.length)∧I14 x29)))))∧∀ y32:(List (aA))×Int×(List (aA))×Bool×Int×Int×Int×Int,I14 y32→(Br (decide ((0:Int)≤y32.2.2.2.2.1)&&decide (y32.2.2.2.2.1 < (y32.1.length:Int))) (Br (decide ((0:Int)≤y32.2.1)&&decide (y32.2.1 < (a.length:Int))) (Br (!(((at_ y32.1 y32.2.2.2.2.1).1).toList==((at_ a y32.2.1).1).toList)) (Br (decide ((0:Int)≤y32.2.2.2.2.1)&&decide (y32.2.2.2.2.1 < (y32.1.length:Int))) ((y32.2.2.1.length=y32.2.2.1.length∧pY ((y32.2.2.1.length+1) * 32))∧(∃ x40:(List (aA))×Int×(List (aA))×Bool×Int×Int×Int,SlS aC a (SlQ y32.1.length x40.1.length (gl aC y32.1) (gl aC x40.1) ((y32.2.1=x40.2.1)∧SlQ (y32.2.2.1.length+1) x40.2.2.1.length (eN (gl aC y32.2.2.1) y32.2.2.1.length (fun _=>[.str ((at_ y32.1 y32.2.2.2.2.1).1),.str ((at_ y32.1 y32.2.2.2.2.1).2)])) (gl aC x40.2.2.1) ((y32.2.2.2.1=x40.2.2.2.1)∧((a.length:Int)=(a.length:Int))∧(y32.2.2.2.2.2.1=x40.2.2.2.2.1)∧(y32.2.2.2.2.2.2.1=x40.2.2.2.2.2.1)∧(y32.2.2.2.2.2.2.2=x40.2.2.2.2.2.2)∧((y32.2.2.1.length+1)=x40.2.2.1.length)∧I13 x40))))) False) (∃ x42:(List (aA))×Int×(List (aA))×Bool×Int×Int×Int,SlS aC a (SlQ y32.1.length x42.1.length (gl aC y32.1) (gl aC x42.1) ((y32.2.1=x42.2.1)∧SlQ y32.2.2.1.length x42.2.2.1.length (gl aC y32.2.2.1) (gl aC x42.2.2.1) ((y32.2.2.2.1=x42.2.2.2.1)∧((a.length:Int)=(a.length:Int))∧(y32.2.2.2.2.2.1=x42.2.2.2.2.1)∧(y32.2.2.2.2.2.2.1=x42.2.2.2.2.2.1)∧(y32.2.2.2.2.2.2.2=x42.2.2.2.2.2.2)∧(y32.2.2.1.length=x42.2.2.1.length)∧I13 x42))))) False) False))∧∀ y47:(List (aA))×Int×(List (aA))×Bool×Int×Int×Int,I13 y47→(Let (IntKind.i64.wrap (y47.2.2.2.2.2.2+(1:Int))) (fun v50:Int=>∃ x51:(List (aA))×Int×(List (aA))×Bool×Int×Int×Int,SlS aC a (SlQ y47.1.length x51.1.length (gl aC y47.1) (gl aC x51.1) ((y47.2.1=x51.2.1)∧SlQ y47.2.2.1.length x51.2.2.1.length (gl aC y47.2.2.1) (gl aC x51.2.2.1) ((y47.2.2.2.1=x51.2.2.2.1)∧((a.length:Int)=(a.length:Int))∧(y47.2.2.2.2.1=x51.2.2.2.2.1)∧(y47.2.2.2.2.2.1=x51.2.2.2.2.2.1)∧(v50=x51.2.2.2.2.2.2)∧(y47.2.2.1.length=x51.2.2.1.length)∧I8 x51∧μ9 x51 < μ9 y10)))))) (∃ I56:((List (aA))×Int)→Prop,(Br (!y10.2.2.2.1) (Br (decide ((0:Int)≤y10.2.1)&&decide (y10.2.1 < (a.length:Int))) ((y10.2.2.1.length=y10.2.2.1.length∧pY ((y10.2.2.1.length+1) * 32))∧(∃ x60:(List (aA))×Int,SlS aC a (SlQ (y10.2.2.1.length+1) x60.1.length (eN (gl aC y10.2.2.1) y10.2.2.1.length (fun _=>[.str ((at_ a y10.2.1).1),.str ((at_ a y10.2.1).2)])) (gl aC x60.1) (((a.length:Int)=(a.length:Int))∧(y10.2.2.2.2.1=x60.2)∧((y10.2.2.1.length+1)=x60.1.length)∧I56 x60)))) False) (∃ x62:(List (aA))×Int,SlS aC a (SlQ y10.2.2.1.length x62.1.length (gl aC y10.2.2.1) (gl aC x62.1) (((a.length:Int)=(a.length:Int))∧(y10.2.2.2.2.1=x62.2)∧(y10.2.2.1.length=x62.1.length)∧I56 x62))))∧∀ y65:(List (aA))×Int,I56 y65→(Let (IntKind.i64.wrap (y65.2+(1:Int))) (fun v68:Int=>∃ x69:(List (aA))×Int,SlS aC a (SlQ y65.1.length x69.1.length (gl aC y65.1) (gl aC x69.1) (((a.length:Int)=(a.length:Int))∧(v68=x69.2)∧I2 x69∧μ3 x69 < μ3 y4))))))) (SlQ y4.1.length ((bB a).length) (gl aC y4.1) (gl aC (bB a)) (True)))
def f386.vc (a:List (aA)):Prop:=(∃ (I2:((List (aA))×Int)→Prop) (μ3:((List (aA))×Int)→Nat),I2 ([],(0:Int))∧∀ y4:(List (aA))×Int,I2 y4→((y4.2 < (a.length:Int)→(∃ (I8:((List (aA))×Int×(List (aA))×Bool×Int×Int×Int)→Prop) (μ9:((List (aA))×Int×(List (aA))×Bool×Int×Int×Int)→Nat),I8 (y4.1,y4.2,[],false,y4.2,(y4.1.length:Int),(0:Int))∧∀ y10:(List (aA))×Int×(List (aA))×Bool×Int×Int×Int,I8 y10→((y10.2.2.2.2.2.2 < y10.2.2.2.2.2.1→(∃ I13:((List (aA))×Int×(List (aA))×Bool×Int×Int×Int)→Prop,((∃ I14:((List (aA))×Int×(List (aA))×Bool×Int×Int×Int×Int)→Prop,(((¬(y10.2.2.2.1=true)→((0:Int)≤y10.2.2.2.2.2.2∧y10.2.2.2.2.2.2 < (y10.1.length:Int)∧((0:Int)≤y10.2.1∧y10.2.1 < (a.length:Int)∧((¬sLt ((at_ y10.1 y10.2.2.2.2.2.2).1) ((at_ a y10.2.1).1)→((0:Int)≤y10.2.1∧y10.2.1 < (a.length:Int)∧(y10.2.2.1.length+1≤1073741824∧(I14 (y10.1,y10.2.1,y10.2.2.1++([(at_ a y10.2.1)]),true,y10.2.2.2.2.2.2,y10.2.2.2.2.1,y10.2.2.2.2.2.1,y10.2.2.2.2.2.2)))))∧(¬(¬sLt ((at_ y10.1 y10.2.2.2.2.2.2).1) ((at_ a y10.2.1).1))→(I14 (y10.1,y10.2.1,y10.2.2.1,y10.2.2.2.1,y10.2.2.2.2.2.2,y10.2.2.2.2.1,y10.2.2.2.2.2.1,y10.2.2.2.2.2.2)))))))∧(¬(¬(y10.2.2.2.1=true))→(I14 (y10.1,y10.2.1,y10.2.2.1,y10.2.2.2.1,y10.2.2.2.2.2.2,y10.2.2.2.2.1,y10.2.2.2.2.2.1,y10.2.2.2.2.2.2)))))∧∀ y32:(List (aA))×Int×(List (aA))×Bool×Int×Int×Int×Int,I14 y32→((0:Int)≤y32.2.2.2.2.1∧y32.2.2.2.2.1 < (y32.1.length:Int)∧((0:Int)≤y32.2.1∧y32.2.1 < (a.length:Int)∧((¬(((at_ y32.1 y32.2.2.2.2.1).1)=((at_ a y32.2.1).1))→((0:Int)≤y32.2.2.2.2.1∧y32.2.2.2.2.1 < (y32.1.length:Int)∧(y32.2.2.1.length+1≤1073741824∧(I13 (y32.1,y32.2.1,y32.2.2.1++([(at_ y32.1 y32.2.2.2.2.1)]),y32.2.2.2.1,y32.2.2.2.2.2.1,y32.2.2.2.2.2.2.1,y32.2.2.2.2.2.2.2)))))∧(¬(¬(((at_ y32.1 y32.2.2.2.2.1).1)=((at_ a y32.2.1).1)))→(I13 (y32.1,y32.2.1,y32.2.2.1,y32.2.2.2.1,y32.2.2.2.2.2.1,y32.2.2.2.2.2.2.1,y32.2.2.2.2.2.2.2))))))))∧∀ y47:(List (aA))×Int×(List (aA))×Bool×Int×Int×Int,I13 y47→(-9223372036854775808≤(y47.2.2.2.2.2.2+(1:Int))∧(y47.2.2.2.2.2.2+(1:Int))≤9223372036854775807∧(I8 (y47.1,y47.2.1,y47.2.2.1,y47.2.2.2.1,y47.2.2.2.2.1,y47.2.2.2.2.2.1,(y47.2.2.2.2.2.2+(1:Int)))∧μ9 (y47.1,y47.2.1,y47.2.2.1,y47.2.2.2.1,y47.2.2.2.2.1,y47.2.2.2.2.2.1,(y47.2.2.2.2.2.2+(1:Int))) < μ9 y10))))∧(¬(y10.2.2.2.2.2.2 < y10.2.2.2.2.2.1)→(∃ I56:((List (aA))×Int)→Prop,(((¬(y10.2.2.2.1=true)→((0:Int)≤y10.2.1∧y10.2.1 < (a.length:Int)∧(y10.2.2.1.length+1≤1073741824∧(I56 (y10.2.2.1++([(at_ a y10.2.1)]),y10.2.2.2.2.1)))))∧(¬(¬(y10.2.2.2.1=true))→(I56 (y10.2.2.1,y10.2.2.2.2.1)))))∧∀ y65:(List (aA))×Int,I56 y65→(-9223372036854775808≤(y65.2+(1:Int))∧(y65.2+(1:Int))≤9223372036854775807∧(I2 (y65.1,(y65.2+(1:Int)))∧μ3 (y65.1,(y65.2+(1:Int))) < μ3 y4)))))))∧(¬(y4.2 < (a.length:Int))→(y4.1=bB a))))
set_option maxRecDepth 100000 in
set_option maxHeartbeats 2000000 in
theorem f386.of (a:List (aA)) (h:f386.vc a):f386.tree a:=Exists.elim h (fun I2 h82_=>Exists.elim h82_ (fun μ3 h82=>⟨I2,μ3,⟨([],(0:Int)),SlS.mk  (slQ (Rds.nil (enc:=aC)) (⟨rfl,⟨rfl,h82.1⟩⟩))⟩,fun y4 h84=>br (h82.2 y4 h84) Cnd.dec (fun h5 k80=>Exists.elim k80 (fun I8 h76_=>Exists.elim h76_ (fun μ9 h76=>⟨I8,μ9,⟨(y4.1,y4.2,[],false,y4.2,(y4.1.length:Int),(0:Int)),SlS.mk  (slQ (Rds.self (enc:=aC)) (⟨rfl,slQ (Rds.nil (enc:=aC)) (⟨rfl,⟨rfl,⟨rfl,⟨rfl,⟨rfl,⟨(aV fW (Rds.nil (enc:=aC))),h76.1⟩⟩⟩⟩⟩⟩)⟩))⟩,fun y10 h78=>br (h76.2 y10 h78) Cnd.dec (fun h11 k74=>Exists.elim k74 (fun I13 h49=>⟨I13,Exists.elim h49.1 (fun I14 h34=>⟨I14,br h34.1 (Cnd.not Cnd.b) (fun h15 k30=>chk k30.2.2 Cnd.ix ⟨k30.1,k30.2.1⟩ (fun h17 k28=>chk k28.2.2 Cnd.ix ⟨k28.1,k28.2.1⟩ (fun h18 k27=>br k27 (Cnd.not Cnd.sl_) (fun h19 k25=>chk k25.2.2 Cnd.ix ⟨k25.1,k25.2.1⟩ (fun h21 k23=>⟨⟨rfl,(mT k23.1 (by decide))⟩,⟨(y10.1,y10.2.1,y10.2.2.1++([(at_ a y10.2.1)]),true,y10.2.2.2.2.2.2,y10.2.2.2.2.1,y10.2.2.2.2.2.1,y10.2.2.2.2.2.2),SlS.mk  (slQ (Rds.self (enc:=aC)) (⟨rfl,slQ (Rds.app (enc:=aC) (Rds.self (enc:=aC)) (Rds.one (enc:=aC) (DEqs.refl _))) (⟨rfl,⟨rfl,⟨rfl,⟨rfl,⟨rfl,⟨rfl,⟨(aV (eN (gl aC y10.2.2.1) y10.2.2.1.length (fun _=>[.str ((at_ a y10.2.1).1),.str ((at_ a y10.2.1).2)])) (Rds.app (enc:=aC) (Rds.self (enc:=aC)) (Rds.one (enc:=aC) (DEqs.refl _)))),k23.2⟩⟩⟩⟩⟩⟩⟩)⟩))⟩⟩)) (fun h20 k26=>⟨(y10.1,y10.2.1,y10.2.2.1,y10.2.2.2.1,y10.2.2.2.2.2.2,y10.2.2.2.2.1,y10.2.2.2.2.2.1,y10.2.2.2.2.2.2),SlS.mk  (slQ (Rds.self (enc:=aC)) (⟨rfl,slQ (Rds.self (enc:=aC)) (⟨rfl,⟨rfl,⟨rfl,⟨rfl,⟨rfl,⟨rfl,⟨(aV (gl aC y10.2.2.1) (Rds.self (enc:=aC))),k26⟩⟩⟩⟩⟩⟩⟩)⟩))⟩)))) (fun h16 k31=>⟨(y10.1,y10.2.1,y10.2.2.1,y10.2.2.2.1,y10.2.2.2.2.2.2,y10.2.2.2.2.1,y10.2.2.2.2.2.1,y10.2.2.2.2.2.2),SlS.mk  (slQ (Rds.self (enc:=aC)) (⟨rfl,slQ (Rds.self (enc:=aC)) (⟨rfl,⟨rfl,⟨rfl,⟨rfl,⟨rfl,⟨rfl,⟨(aV (gl aC y10.2.2.1) (Rds.self (enc:=aC))),k31⟩⟩⟩⟩⟩⟩⟩)⟩))⟩),fun y32 h33=>chk (h34.2 y32 h33).2.2 Cnd.ix ⟨(h34.2 y32 h33).1,(h34.2 y32 h33).2.1⟩ (fun h35 k46=>chk k46.2.2 Cnd.ix ⟨k46.1,k46.2.1⟩ (fun h36 k45=>br k45 (Cnd.not Cnd.seq) (fun h37 k43=>chk k43.2.2 Cnd.ix ⟨k43.1,k43.2.1⟩ (fun h39 k41=>⟨⟨rfl,(mT k41.1 (by decide))⟩,⟨(y32.1,y32.2.1,y32.2.2.1++([(at_ y32.1 y32.2.2.2.2.1)]),y32.2.2.2.1,y32.2.2.2.2.2.1,y32.2.2.2.2.2.2.1,y32.2.2.2.2.2.2.2),SlS.mk  (slQ (Rds.self (enc:=aC)) (⟨rfl,slQ (Rds.app (enc:=aC) (Rds.self (enc:=aC)) (Rds.one (enc:=aC) (DEqs.refl _))) (⟨rfl,⟨rfl,⟨rfl,⟨rfl,⟨rfl,⟨(aV (eN (gl aC y32.2.2.1) y32.2.2.1.length (fun _=>[.str ((at_ y32.1 y32.2.2.2.2.1).1),.str ((at_ y32.1 y32.2.2.2.2.1).2)])) (Rds.app (enc:=aC) (Rds.self (enc:=aC)) (Rds.one (enc:=aC) (DEqs.refl _)))),k41.2⟩⟩⟩⟩⟩⟩)⟩))⟩⟩)) (fun h38 k44=>⟨(y32.1,y32.2.1,y32.2.2.1,y32.2.2.2.1,y32.2.2.2.2.2.1,y32.2.2.2.2.2.2.1,y32.2.2.2.2.2.2.2),SlS.mk  (slQ (Rds.self (enc:=aC)) (⟨rfl,slQ (Rds.self (enc:=aC)) (⟨rfl,⟨rfl,⟨rfl,⟨rfl,⟨rfl,⟨(aV (gl aC y32.2.2.1) (Rds.self (enc:=aC))),k44⟩⟩⟩⟩⟩⟩)⟩))⟩)))⟩),fun y47 h48=>wrapK.i64 (h49.2 y47 h48) (fun h53 h54 k55=>⟨(y47.1,y47.2.1,y47.2.2.1,y47.2.2.2.1,y47.2.2.2.2.1,y47.2.2.2.2.2.1,(y47.2.2.2.2.2.2+(1:Int))),SlS.mk  (slQ (Rds.self (enc:=aC)) (⟨rfl,slQ (Rds.self (enc:=aC)) (⟨rfl,⟨rfl,⟨rfl,⟨rfl,⟨rfl,⟨(aV (gl aC y47.2.2.1) (Rds.self (enc:=aC))),k55⟩⟩⟩⟩⟩⟩)⟩))⟩)⟩)) (fun h12 k75=>Exists.elim k75 (fun I56 h67=>⟨I56,br h67.1 (Cnd.not Cnd.b) (fun h57 k63=>chk k63.2.2 Cnd.ix ⟨k63.1,k63.2.1⟩ (fun h59 k61=>⟨⟨rfl,(mT k61.1 (by decide))⟩,⟨(y10.2.2.1++([(at_ a y10.2.1)]),y10.2.2.2.2.1),SlS.mk  (slQ (Rds.app (enc:=aC) (Rds.self (enc:=aC)) (Rds.one (enc:=aC) (DEqs.refl _))) (⟨rfl,⟨rfl,⟨(aV (eN (gl aC y10.2.2.1) y10.2.2.1.length (fun _=>[.str ((at_ a y10.2.1).1),.str ((at_ a y10.2.1).2)])) (Rds.app (enc:=aC) (Rds.self (enc:=aC)) (Rds.one (enc:=aC) (DEqs.refl _)))),k61.2⟩⟩⟩))⟩⟩)) (fun h58 k64=>⟨(y10.2.2.1,y10.2.2.2.2.1),SlS.mk  (slQ (Rds.self (enc:=aC)) (⟨rfl,⟨rfl,⟨(aV (gl aC y10.2.2.1) (Rds.self (enc:=aC))),k64⟩⟩⟩))⟩),fun y65 h66=>wrapK.i64 (h67.2 y65 h66) (fun h71 h72 k73=>⟨(y65.1,(y65.2+(1:Int))),SlS.mk  (slQ (Rds.self (enc:=aC)) (⟨rfl,⟨rfl,k73⟩⟩))⟩)⟩))⟩))) (fun h6 k81=>slQ (Rds.to (Rds.self (enc:=aC)) k81) (trivial))⟩))
theorem f386.eq (a:List (aA)):(f386.af a).gives f386.env (f386.args a) (f386.blks a) (f386.res a) (f386.blks' a)=f386.tree a:=by kernel_rfl
end Go.Abs

-- interregnum/ident.Value
namespace Go.Abs
open Go
def f387.ent (K:((List (aA))×ByteArray)→Prop) (t:(List (aA))×ByteArray):Prop:=∃ c:(List (aA))×ByteArray,SlQ t.1.length c.1.length (gl aC t.1) (gl aC c.1) ((t.2=c.2)∧K c)
theorem f387.ei {K:((List (aA))×ByteArray)→Prop} {t:(List (aA))×ByteArray} (h:K t):f387.ent K t:=⟨t,slQ (Rds.self (enc:=aC)) (⟨rfl,h⟩)⟩
def f387.args (a:(List (aA))×ByteArray):List D:=[.slice .ro 2 a.1.length (gl aC a.1),.str a.2]
def f387.blks (a:(List (aA))×ByteArray):List (List D):=[]
def f387.res (a:(List (aA))×ByteArray):List D:=[.str ((b7 a).1),.bool ((b7 a).2)]
def f387.blks' (a:(List (aA))×ByteArray):List (List D):=[]
def f387.C:aK:=FnC f387.args f387.blks (fun a=>mY a) f387.res f387.blks'
end Go.Abs

/- interregnum/ident.Value -/
namespace Go.Abs
open Go
set_option linter.unusedVariables false
def f387.S0 (a:(List (aA))×ByteArray) (x:Int):Tm:=⟨[.dead,.str a.2,.dead,.dead,.dead,.dead,.dead,.dead,.slice .ro 2 a.1.length (gl aC a.1),.int .i64 (a.1.length:Int),.int .i64 x,.dead,.dead,.dead,.dead,.dead,.dead,.dead,.dead,.dead,.dead],[],[]⟩
def f387.kills (a:(List (aA))×ByteArray):List Hint:=[.tell Int (f387.S0 a)]
def f387.cuts (a:(List (aA))×ByteArray):List (Nat×Σ β:Type,β→Tm):=[]
def f387.af (a:(List (aA))×ByteArray):AF:=AF.mk (.seq (.region [⟨(some 4),0,.move,[.c (.str ByteArray.empty)],none⟩,
 ⟨(some 5),1,.move,[.c (.bool false)],none⟩])
 (.seq (.seq (.region [oT 8 2 .move [0],
 oT 9 3 (.len false) [8],
 ⟨(some 10),4,.move,[.c (.int .i64 (0))],none⟩])
 (.block 0 (.loopT Int (f387.S0 a) 5 22 (.seq (.region [oT 11 5 (.bin .lss) [10,9]])
 (.seq (.cond (.t 11) (.skip) (.exit 0))
 (.seq (.block 1 (.seq (.region [oT 12 6 (.indexAddr 2 none) [8,10],
 oT 13 7 (.load true 2) [12],
 oT 7 8 (.alloc [.str ByteArray.empty,.str ByteArray.empty]) [],
 ⟨none,11,(.store 2),[.t 7,.t 13],none⟩])
 (.seq (.region [oT 14 12 (.fieldAddr 0) [7],
 oT 15 13 (.load false 1) [14],
 oT 16 14 .move [1],
 oT 17 15 (.bin .eql) [15,16]])
 (.cond (.t 17) (.seq (.region [oT 18 16 (.fieldAddr 1) [7],
 oT 19 17 (.load false 1) [18],
 oT 4 18 .move [19],
 ⟨(some 5),19,.move,[.c (.bool true)],none⟩])
 (.ret)) (.skip)))))
 (.region [⟨(some 20),20,(.bin .add),[.t 10,.c (.int .i64 (1))],none⟩,
 oT 10 21 .move [20]])))))))
 (.seq (.region [⟨(some 4),22,.move,[.c (.str ByteArray.empty)],none⟩,
 ⟨(some 5),23,.move,[.c (.bool false)],none⟩])
 (.ret))))
 [.tmp 4,.tmp 5] 0 19
def f387.env:Env:=[]
def f387.tree (a:(List (aA))×ByteArray):Prop:=∃ (I2:Int→Prop) (μ3:Int→Nat),(∃ x1:Int,(a.2=a.2)∧SlS aC a.1 (((a.1.length:Int)=(a.1.length:Int))∧((0:Int)=x1)∧I2 x1))∧∀ y4:Int,I2 y4→(Br (decide (y4 < (a.1.length:Int))) (Br (decide ((0:Int)≤y4)&&decide (y4 < (a.1.length:Int))) (Br (((at_ a.1 y4).1).toList==a.2.toList) ((((at_ a.1 y4).2)=((b7 a).1))∧(true=((b7 a).2))∧True) (Let (IntKind.i64.wrap (y4+(1:Int))) (fun v11:Int=>∃ x12:Int,(a.2=a.2)∧SlS aC a.1 (((a.1.length:Int)=(a.1.length:Int))∧(v11=x12)∧I2 x12∧μ3 x12 < μ3 y4)))) False) ((ByteArray.empty=((b7 a).1))∧(false=((b7 a).2))∧True))
def f387.vc (a:(List (aA))×ByteArray):Prop:=(∃ (I2:Int→Prop) (μ3:Int→Nat),I2 (0:Int)∧∀ y4:Int,I2 y4→((y4 < (a.1.length:Int)→((0:Int)≤y4∧y4 < (a.1.length:Int)∧((((at_ a.1 y4).1)=a.2→(((at_ a.1 y4).2,true)=b7 a))∧(¬(((at_ a.1 y4).1)=a.2)→(-9223372036854775808≤(y4+(1:Int))∧(y4+(1:Int))≤9223372036854775807∧(I2 (y4+(1:Int))∧μ3 (y4+(1:Int)) < μ3 y4))))))∧(¬(y4 < (a.1.length:Int))→((ByteArray.empty,false)=b7 a))))
set_option maxRecDepth 100000 in
set_option maxHeartbeats 2000000 in
theorem f387.of (a:(List (aA))×ByteArray) (h:f387.vc a):f387.tree a:=Exists.elim h (fun I2 h23_=>Exists.elim h23_ (fun μ3 h23=>⟨I2,μ3,⟨(0:Int),⟨rfl,SlS.mk  (⟨rfl,⟨rfl,h23.1⟩⟩)⟩⟩,fun y4 h25=>br (h23.2 y4 h25) Cnd.dec (fun h5 k21=>chk k21.2.2 Cnd.ix ⟨k21.1,k21.2.1⟩ (fun h7 k19=>br k19 Cnd.seq (fun h8 k17=>⟨(congrArg (fun x:ByteArray×Bool=>x.1) k17 :),⟨(congrArg (fun x:ByteArray×Bool=>x.2) k17 :),trivial⟩⟩) (fun h9 k18=>wrapK.i64 k18 (fun h14 h15 k16=>⟨(y4+(1:Int)),⟨rfl,SlS.mk  (⟨rfl,⟨rfl,k16⟩⟩)⟩⟩)))) (fun h6 k22=>⟨(congrArg (fun x:ByteArray×Bool=>x.1) k22 :),⟨(congrArg (fun x:ByteArray×Bool=>x.2) k22 :),trivial⟩⟩)⟩))
theorem f387.eq (a:(List (aA))×ByteArray):(f387.af a).gives f387.env (f387.args a) (f387.blks a) (f387.res a) (f387.blks' a)=f387.tree a:=by kernel_rfl
end Go.Abs

-- interregnum/interregnumref04.Value
namespace Go.Abs
open Go
def f390.ent (K:((List (aA))×ByteArray)→Prop) (t:(List (aA))×ByteArray):Prop:=∃ c:(List (aA))×ByteArray,SlQ t.1.length c.1.length (gl aC t.1) (gl aC c.1) ((t.2=c.2)∧K c)
theorem f390.ei {K:((List (aA))×ByteArray)→Prop} {t:(List (aA))×ByteArray} (h:K t):f390.ent K t:=⟨t,slQ (Rds.self (enc:=aC)) (⟨rfl,h⟩)⟩
def f390.args (a:(List (aA))×ByteArray):List D:=[.slice .ro 2 a.1.length (gl aC a.1),.str a.2]
def f390.blks (a:(List (aA))×ByteArray):List (List D):=[]
def f390.res (a:(List (aA))×ByteArray):List D:=[.str ((b7 a).1),.bool ((b7 a).2)]
def f390.blks' (a:(List (aA))×ByteArray):List (List D):=[]
def f390.C:aK:=FnC f390.args f390.blks (fun a=>mY a) f390.res f390.blks'
end Go.Abs

/- interregnum/interregnumref04.Value -/
namespace Go.Abs
open Go
set_option linter.unusedVariables false
def f390.S0 (a:(List (aA))×ByteArray) (x:Int):Tm:=⟨[.slice .ro 2 a.1.length (gl aC a.1),.str a.2,.dead,.dead,.dead,.dead,.dead,.dead,.int .i64 (a.1.length:Int),.int .i64 x,.dead,.dead,.dead,.dead,.dead,.dead,.dead,.dead,.dead,.dead,.dead,.dead,.dead,.dead,.dead],[],[]⟩
def f390.kills (a:(List (aA))×ByteArray):List Hint:=[.tell Int (f390.S0 a)]
def f390.cuts (a:(List (aA))×ByteArray):List (Nat×Σ β:Type,β→Tm):=[]
def f390.af (a:(List (aA))×ByteArray):AF:=AF.mk (.seq (.region [⟨(some 4),0,.move,[.c (.str ByteArray.empty)],none⟩,
 ⟨(some 5),1,.move,[.c (.bool false)],none⟩])
 (.seq (.seq (.region [oT 7 2 .move [0],
 oT 8 3 (.len false) [7],
 ⟨(some 9),4,.move,[.c (.int .i64 (0))],none⟩])
 (.block 0 (.loopT Int (f390.S0 a) 5 24 (.seq (.region [oT 10 5 (.bin .lss) [9,8]])
 (.seq (.cond (.t 10) (.skip) (.exit 0))
 (.seq (.block 1 (.seq (.region [oT 11 6 .move [9],
 oT 6 7 .move [11]])
 (.seq (.region [oT 12 8 .move [0],
 oT 13 9 .move [6],
 oT 14 10 (.indexAddr 2 none) [12,13],
 oT 15 11 (.fieldAddr 0) [14],
 oT 16 12 (.load false 1) [15],
 oT 17 13 .move [1],
 oT 18 14 (.bin .eql) [16,17]])
 (.cond (.t 18) (.seq (.region [oT 19 15 .move [0],
 oT 20 16 .move [6],
 oT 21 17 (.indexAddr 2 none) [19,20],
 oT 22 18 (.fieldAddr 1) [21],
 oT 23 19 (.load false 1) [22],
 oT 4 20 .move [23],
 ⟨(some 5),21,.move,[.c (.bool true)],none⟩])
 (.ret)) (.skip)))))
 (.region [⟨(some 24),22,(.bin .add),[.t 9,.c (.int .i64 (1))],none⟩,
 oT 9 23 .move [24]])))))))
 (.seq (.region [⟨(some 4),24,.move,[.c (.str ByteArray.empty)],none⟩,
 ⟨(some 5),25,.move,[.c (.bool false)],none⟩])
 (.ret))))
 [.tmp 4,.tmp 5] 0 23
def f390.env:Env:=[]
def f390.tree (a:(List (aA))×ByteArray):Prop:=∃ (I2:Int→Prop) (μ3:Int→Nat),(∃ x1:Int,SlS aC a.1 ((a.2=a.2)∧((a.1.length:Int)=(a.1.length:Int))∧((0:Int)=x1)∧I2 x1))∧∀ y4:Int,I2 y4→(Br (decide (y4 < (a.1.length:Int))) (Br (decide ((0:Int)≤y4)&&decide (y4 < (a.1.length:Int))) (Br (((at_ a.1 y4).1).toList==a.2.toList) (Br (decide ((0:Int)≤y4)&&decide (y4 < (a.1.length:Int))) ((((at_ a.1 y4).2)=((b7 a).1))∧(true=((b7 a).2))∧True) False) (Let (IntKind.i64.wrap (y4+(1:Int))) (fun v13:Int=>∃ x14:Int,SlS aC a.1 ((a.2=a.2)∧((a.1.length:Int)=(a.1.length:Int))∧(v13=x14)∧I2 x14∧μ3 x14 < μ3 y4)))) False) ((ByteArray.empty=((b7 a).1))∧(false=((b7 a).2))∧True))
def f390.vc (a:(List (aA))×ByteArray):Prop:=(∃ (I2:Int→Prop) (μ3:Int→Nat),I2 (0:Int)∧∀ y4:Int,I2 y4→((y4 < (a.1.length:Int)→((0:Int)≤y4∧y4 < (a.1.length:Int)∧((((at_ a.1 y4).1)=a.2→((0:Int)≤y4∧y4 < (a.1.length:Int)∧(((at_ a.1 y4).2,true)=b7 a)))∧(¬(((at_ a.1 y4).1)=a.2)→(-9223372036854775808≤(y4+(1:Int))∧(y4+(1:Int))≤9223372036854775807∧(I2 (y4+(1:Int))∧μ3 (y4+(1:Int)) < μ3 y4))))))∧(¬(y4 < (a.1.length:Int))→((ByteArray.empty,false)=b7 a))))
set_option maxRecDepth 100000 in
set_option maxHeartbeats 2000000 in
theorem f390.of (a:(List (aA))×ByteArray) (h:f390.vc a):f390.tree a:=Exists.elim h (fun I2 h25_=>Exists.elim h25_ (fun μ3 h25=>⟨I2,μ3,⟨(0:Int),SlS.mk  (⟨rfl,⟨rfl,⟨rfl,h25.1⟩⟩⟩)⟩,fun y4 h27=>br (h25.2 y4 h27) Cnd.dec (fun h5 k23=>chk k23.2.2 Cnd.ix ⟨k23.1,k23.2.1⟩ (fun h7 k21=>br k21 Cnd.seq (fun h8 k19=>chk k19.2.2 Cnd.ix ⟨k19.1,k19.2.1⟩ (fun h10 k12=>⟨(congrArg (fun x:ByteArray×Bool=>x.1) k12 :),⟨(congrArg (fun x:ByteArray×Bool=>x.2) k12 :),trivial⟩⟩)) (fun h9 k20=>wrapK.i64 k20 (fun h16 h17 k18=>⟨(y4+(1:Int)),SlS.mk  (⟨rfl,⟨rfl,⟨rfl,k18⟩⟩⟩)⟩)))) (fun h6 k24=>⟨(congrArg (fun x:ByteArray×Bool=>x.1) k24 :),⟨(congrArg (fun x:ByteArray×Bool=>x.2) k24 :),trivial⟩⟩)⟩))
theorem f390.eq (a:(List (aA))×ByteArray):(f390.af a).gives f390.env (f390.args a) (f390.blks a) (f390.res a) (f390.blks' a)=f390.tree a:=by kernel_rfl
end Go.Abs

/- Layer 4: labels by their keys. -/
namespace Go.Abs
open Go

theorem f217.ok (a:ByteArray×ByteArray) (_:True):f217.vc a:=⟨fun c=>(by cases c),fun _=>rfl⟩

theorem vP {l:List a8} {k:ByteArray} {i:Nat} (h:i < l.length) (e:(l.getD i default).1=k) (n:∀ j,j < i→(l.getD j default).1≠k):b7 (l,k)=((l.getD i default).2,true):=by
 unfold b7
 have:l.find? (fun x=>decide (x.1=k))=some (l.getD i default):=by
  rw [List.find?_eq_some_iff_getElem]
  refine ⟨decide_eq_true e,i,h,(fB h).symm,fun j hj=>?_⟩
  have:=n j hj
  rw [fB (by omega)] at this
  rw [Bool.not_eq_true',decide_eq_false_iff_not]
  exact this
 simp only
 rw [this]
theorem y9 {l:List a8} {k:ByteArray} (n:∀ j,j < l.length→(l.getD j default).1≠k):b7 (l,k)=(ByteArray.empty,false):=by
 unfold b7
 have:l.find? (fun x=>decide (x.1=k))=none:=by
  rw [List.find?_eq_none]
  intro x hx hh
  obtain ⟨j,hj,rfl⟩:=List.mem_iff_getElem.1 hx
  have:=n j hj
  rw [fB hj] at this
  exact this (of_decide_eq_true hh)
 simp only
 rw [this]

theorem f387.ok (a:List a8×ByteArray) (h:mY a):f387.vc a:=by
 obtain ⟨l,k⟩:=a
 have h:l.length≤1048576:=h
 refine ⟨fun y=>0≤y∧y≤(l.length:Int)∧∀ j,j < y.toNat→(l.getD j default).1≠k,fun y=>l.length - y.toNat,⟨by omega,by omega,fun j hj=>absurd hj (Nat.not_lt_zero j)⟩,fun y hy=>?_⟩
 obtain ⟨g0,g1,g2⟩:=hy
 refine ⟨fun hlt=>⟨g0,hlt,fun c=>(vP (l:=l) (i:=y.toNat) (by simp only at hlt; omega) c g2).symm,fun c=>⟨by omega,by omega,⟨by omega,by simp only at hlt; omega,fun j hj=>?_⟩,by simp only at hlt ⊢; omega⟩⟩,fun hge=>(y9 fun j hj=>g2 j (by simp only at hge; omega)).symm⟩
 by_cases e:j=y.toNat
 ·rw [e]
  exact c
 ·exact g2 j (by omega)

theorem f390.ok (a:List a8×ByteArray) (h:mY a):f390.vc a:=by
 obtain ⟨l,k⟩:=a
 have h:l.length≤1048576:=h
 refine ⟨fun y=>0≤y∧y≤(l.length:Int)∧∀ j,j < y.toNat→(l.getD j default).1≠k,fun y=>l.length - y.toNat,⟨by omega,by omega,fun j hj=>absurd hj (Nat.not_lt_zero j)⟩,fun y hy=>?_⟩
 obtain ⟨g0,g1,g2⟩:=hy
 refine ⟨fun hlt=>⟨g0,hlt,fun c=>⟨g0,hlt,(vP (l:=l) (i:=y.toNat) (by simp only at hlt; omega) c g2).symm⟩,fun c=>⟨by omega,by omega,⟨by omega,by simp only at hlt; omega,fun j hj=>?_⟩,by simp only at hlt ⊢; omega⟩⟩,fun hge=>(y9 fun j hj=>g2 j (by simp only at hge; omega)).symm⟩
 by_cases e:j=y.toNat
 ·rw [e]
  exact c
 ·exact g2 j (by omega)

theorem sB {l:List a8}:lH l=true↔l.length≤300∧∀ i,i < l.length→(l.getD i default).1.size+(l.getD i default).2.size≤1000:=by
 unfold lH
 simp only [Bool.and_eq_true,decide_eq_true_eq,List.all_eq_true,List.mem_range]
theorem sA {l:List a8} (h:¬lH l=true):false=lH l:=(Bool.eq_false_iff.2 h).symm

theorem f384.ok (a:List a8) (h:hU a):f384.vc a:=by
 refine ⟨fun c=>sA fun hh=>by have:=(sB.1 hh).1; omega,fun c=>?_⟩
 refine ⟨fun y=>0≤y∧y≤(a.length:Int)∧(∀ i,i < y.toNat→(a.getD i default).1.size+(a.getD i default).2.size≤1000),fun y=>a.length - y.toNat,⟨by omega,by omega,fun i hi=>by simp at hi⟩,fun y hy=>?_⟩
 obtain ⟨g0,g1,g2⟩:=hy
 refine ⟨fun hlt=>?_,fun hge=>?_⟩
 ·have n1:=h.2 _ (aCI g0 hlt)
  refine ⟨g0,hlt,g0,hlt,by omega,by omega,fun d=>sA fun hh=>?_,fun d=>⟨by omega,by omega,⟨by omega,by omega,fun i hi=>?_⟩,by simp only; omega⟩⟩
  ·have:=(sB.1 hh).2 y.toNat (by omega)
   rw [← o4] at this
   omega
  ·by_cases he:i=y.toNat
   ·subst he
    rw [← o4]
    omega
   ·exact g2 i (by omega)
 ·symm
  rw [sB]
  exact ⟨by omega,fun i hi=>g2 i (by omega)⟩

theorem qE (l:List ByteArray):dN slt l=iZ slt l:=aGA slt aAZ aIO l
theorem wA (l:List ByteArray):(dN slt l).length=l.length:=by rw [qE,oH]

theorem f385.ok (a:List a8) (h:L20 a):f385.vc a:=by
 have h:a.length≤1048576:=h
 refine ⟨fun y=>0≤y.1∧y.1≤(a.length:Int)∧y.2.1=eG (a.take y.1.toNat)∧y.2.2=y.2.1.map Prod.fst,fun y=>a.length - y.1.toNat,⟨by simp only; omega,by simp only; omega,rfl,rfl⟩,fun y hy=>?_⟩
 obtain ⟨i,m,keys⟩:=y
 obtain ⟨g0,g1,g2,g3⟩:=hy
 simp only at g0 g1 g2 g3 ⊢
 subst g3
 refine ⟨fun hlt=>?_,fun hge=>?_⟩
 ·have st:fD m (at_ a i).1 (at_ a i).2=eG (a.take (i+1).toNat):=by
   rw [show (i+1).toNat=i.toNat+1 from by omega,l8 (by omega),j8,← g2]
   rfl
  have hl:=uZ (a.take i.toNat)
  rw [← g2,List.length_take] at hl
  refine ⟨g0,hlt,fun c=>⟨by omega,by omega,⟨by omega,by omega,st,?_⟩,by omega⟩,fun c=>⟨?_,by omega,by omega,⟨by omega,by omega,st,?_⟩,by omega⟩⟩
  ·rw [iX,if_pos c]
  ·rw [List.length_map]
   omega
  ·rw [iX,if_neg c]
 ·have e:a.take i.toNat=a:=List.take_of_length_le (by omega)
  rw [e] at g2
  subst g2
  have hl:=uZ a
  refine ⟨?_,wA _,?_⟩
  ·unfold lA
   rw [List.length_map]
   omega
  ·have hS:(dN slt ((eG a).map Prod.fst)).length=(eG a).length:=by rw [wA,List.length_map]
   have hin:∀ x∈dN slt ((eG a).map Prod.fst),jH (eG a) x=true:=fun x hx=>by
    rw [qE,mW mG] at hx
    exact (pD _ _).2 hx
   have hK:=zM a
   rw [← qE] at hK
   generalize dN slt ((eG a).map Prod.fst)=S at hS hin hK ⊢
   refine ⟨fun y=>y.2.1=S∧y.2.2.1=(S.length:Int)∧0≤y.2.2.2.1∧y.2.2.2.1≤(S.length:Int)∧y.2.2.2.2=eG a∧y.1=(S.take y.2.2.2.1.toNat).map fun k=>(k,mat (eG a) k),fun y=>S.length - y.2.2.2.1.toNat,⟨rfl,rfl,by simp only; omega,by simp only; omega,rfl,rfl⟩,fun y hy=>?_⟩
   obtain ⟨out,ks,n,j,m⟩:=y
   obtain ⟨e1,e2,e3,e4,e5,e6⟩:=hy
   simp only at e1 e2 e3 e4 e5 e6 ⊢
   subst e1; subst e2; subst e5
   refine ⟨fun hlt=>⟨e3,hlt,fun c=>⟨?_,by omega,by omega,⟨rfl,rfl,by omega,by omega,rfl,?_⟩,by omega⟩,fun c=>absurd (hin _ (aCI e3 hlt)) c⟩,fun hge=>?_⟩
   ·rw [e6,List.length_map,List.length_take]
    omega
   ·rw [show (j+1).toNat=j.toNat+1 from by omega,l8 (by omega),List.map_append,← e6]
    rfl
   ·rw [e6,List.take_of_length_le (by omega)]
    exact hK

theorem f386.ok (a:List a8) (h:L20 a):f386.vc a:=by
 have h:a.length≤1048576:=h
 refine ⟨fun y=>0≤y.2∧y.2≤(a.length:Int)∧y.1=bB (a.take y.2.toNat),fun y=>a.length - y.2.toNat,⟨by simp only; omega,by simp only; omega,rfl⟩,fun y hy=>?_⟩
 obtain ⟨S,i⟩:=y
 obtain ⟨g0,g1,g2⟩:=hy
 simp only at g0 g1 g2 ⊢
 refine ⟨fun hlt=>?_,fun hge=>?_⟩
 ·have sk:SK S:=g2 ▸ nO _
  have hS:S.length≤a.length:=by
   rw [g2]
   exact Nat.le_trans (qO _) (by rw [List.length_take]; omega)
  have st:gC (at_ a i) S=bB (a.take (i+1).toNat):=by
   rw [show (i+1).toNat=i.toNat+1 from by omega,l8 (by omega),gQ,← g2]
   rfl
  clear g2
  generalize hx:at_ a i=x at st
  refine ⟨fun y=>y.1=S∧y.2.1=i∧y.2.2.2.2.1=i∧y.2.2.2.2.2.1=(S.length:Int)∧0≤y.2.2.2.2.2.2∧y.2.2.2.2.2.2≤(S.length:Int) ∧
    (¬y.2.2.2.1=true→y.2.2.1=S.take y.2.2.2.2.2.2.toNat∧∀ z∈S.take y.2.2.2.2.2.2.toNat,slt z.1 x.1=true) ∧
    (y.2.2.2.1=true→y.2.2.1=gC x (S.take y.2.2.2.2.2.2.toNat)∧∃ z∈S.take y.2.2.2.2.2.2.toNat,¬slt z.1 x.1=true),fun y=>S.length - y.2.2.2.2.2.2.toNat,
   ⟨rfl,rfl,rfl,rfl,by simp only; omega,by simp only; omega,fun _=>⟨rfl,fun z hz=>(by cases hz)⟩,fun c=>(by cases c)⟩,fun y hy=>?_⟩
  obtain ⟨S',i',next,done,i2,n,k⟩:=y
  obtain ⟨e1,e2,e3,e4,e5,e6,e7,e8⟩:=hy
  simp only at e1 e2 e3 e4 e5 e6 e7 e8 ⊢
  subst e1; subst e2; subst e3; subst e4
  have lnext:next.length≤k.toNat+1:=by
   by_cases c:done=true
   ·rw [(e8 c).1]
    refine Nat.le_trans (sZ _ _) ?_
    rw [List.length_take]
    omega
   ·rw [(e7 c).1,List.length_take]
    omega
  refine ⟨fun hk=>?_,fun hk=>?_⟩
  ·have tk:S'.take (k+1).toNat=S'.take k.toNat++[at_ S' k]:=by
    rw [show (k+1).toNat=k.toNat+1 from by omega,l8 (by omega)]
    rfl
   generalize hv:at_ S' k=v at tk
   have below:∀ z∈S'.take k.toNat,slt z.1 v.1=true:=fun z hz=>by
    obtain ⟨j,hj,rfl⟩:=List.mem_iff_getElem.1 hz
    rw [List.length_take] at hj
    rw [List.getElem_take,← fB,← hv]
    exact aHU sk (by omega) (by omega)
   refine ⟨fun y=>y.1=S'∧y.2.1=i2∧y.2.2.2.2.1=i2∧y.2.2.2.2.2.1=(S'.length:Int)∧y.2.2.2.2.2.2=k ∧
     (¬y.2.2.2.1=true→y.2.2.1=S'.take (k+1).toNat∧∀ z∈S'.take (k+1).toNat,slt z.1 x.1=true) ∧
     (y.2.2.2.1=true→y.2.2.1=gC x (S'.take (k+1).toNat)∧∃ z∈S'.take (k+1).toNat,¬slt z.1 x.1=true),
    ⟨fun y=>y.1=S'∧y.2.1=i2∧y.2.2.2.2.1=k∧y.2.2.2.2.2.1=i2∧y.2.2.2.2.2.2.1=(S'.length:Int)∧y.2.2.2.2.2.2.2=k∧y.2.2.1.length≤k.toNat+2 ∧
     ((y.2.2.2.1 = false ∧ slt v.1 x.1 = true ∧ y.2.2.1 = S'.take k.toNat ∧ ∀ z ∈ S'.take k.toNat,slt z.1 x.1 = true) ∨
      (y.2.2.2.1=true∧¬slt v.1 x.1=true∧y.2.2.1=S'.take k.toNat++[x]∧∀ z∈S'.take k.toNat,slt z.1 x.1=true) ∨
      (y.2.2.2.1=true∧y.2.2.1=gC x (S'.take k.toNat)∧∃ z∈S'.take k.toNat,¬slt z.1 x.1=true)),⟨fun c=>⟨e5,hk,g0,hlt,?_⟩,fun c=>?_⟩,fun y hy=>?_⟩,fun y hy=>?_⟩
   ·obtain ⟨h7,h8⟩:=e7 c
    rw [hx]
    refine ⟨fun d=>⟨g0,hlt,by omega,rfl,rfl,rfl,rfl,rfl,rfl,?_,.inr (.inl ⟨rfl,fun hh=>d (kI.1 hh),?_,h8⟩)⟩,fun d=>⟨rfl,rfl,rfl,rfl,rfl,rfl,by simp only; omega,.inl ⟨Bool.eq_false_iff.2 c,kI.2 (Classical.not_not.1 d),h7,h8⟩⟩⟩
    ·simp only [List.length_append,List.length_singleton]
     omega
    ·simp only [h7]
   ·have c:=Classical.not_not.1 c
    obtain ⟨h7,h8⟩:=e8 c
    exact ⟨rfl,rfl,rfl,rfl,rfl,rfl,by simp only; omega,.inr (.inr ⟨c,h7,h8⟩)⟩
   ·obtain ⟨T,j,nx,d,k',i3,n,k2⟩:=y
    obtain ⟨f1,f2,f3,f4,f5,f6,f7,f8⟩:=hy
    simp only at f1 f2 f3 f4 f5 f6 f7 f8 ⊢
    subst f1; subst f2; subst f3; subst f5; subst f6
    rw [hv,hx]
    refine ⟨e5,hk,g0,hlt,fun c=>⟨e5,hk,by omega,rfl,rfl,f4,rfl,rfl,fun hd=>?_,fun hd=>?_⟩,fun c=>⟨rfl,rfl,f4,rfl,rfl,fun hd=>?_,fun hd=>?_⟩⟩
    ·rcases f8 with ⟨q1,q2,q3,q4⟩ | ⟨q1,_⟩ | ⟨q1,_⟩
     ·rw [tk,q3]
      refine ⟨rfl,fun z hz=>?_⟩
      rcases List.mem_append.1 hz with hz | hz
      ·exact q4 z hz
      ·rw [List.mem_singleton.1 hz]
       exact q2
     ·exact absurd q1 hd
     ·exact absurd q1 hd
    ·rcases f8 with ⟨q1,_⟩ | ⟨q1,q2,q3,q4⟩ | ⟨q1,q2,q3⟩
     ·rw [q1] at hd
      cases hd
     ·rw [tk,q3,t5 [] q2 q4,if_neg c]
      exact ⟨by rw [List.append_assoc]; rfl,v,List.mem_append_right _ (List.mem_singleton.2 rfl),q2⟩
     ·rw [tk,q2,vM v q3]
      obtain ⟨z,hz,hq⟩:=q3
      exact ⟨rfl,z,List.mem_append_left _ hz,hq⟩
    ·have c:=Classical.not_not.1 c
     rcases f8 with ⟨q1,q2,_⟩ | ⟨q1,_⟩ | ⟨q1,_⟩
     ·exact absurd c (lZ q2)
     ·exact absurd q1 hd
     ·exact absurd q1 hd
    ·have c:=Classical.not_not.1 c
     rcases f8 with ⟨q1,_⟩ | ⟨q1,q2,q3,q4⟩ | ⟨q1,q2,z,hz,hq⟩
     ·rw [q1] at hd
      cases hd
     ·rw [tk,q3,t5 [] q2 q4,if_pos c]
      exact ⟨rfl,v,List.mem_append_right _ (List.mem_singleton.2 rfl),q2⟩
     ·exact absurd (c ▸ below z hz) hq
   ·obtain ⟨T,j,nx,d,i3,n,k2⟩:=y
    obtain ⟨f1,f2,f3,f4,f5,f6,f7⟩:=hy
    simp only at f1 f2 f3 f4 f5 f6 f7 ⊢
    subst f1; subst f2; subst f4; subst f5
    exact ⟨by omega,by omega,⟨rfl,rfl,f3,rfl,by omega,by omega,f6,f7⟩,by omega⟩
  ·have e:S'.take k.toNat=S':=List.take_of_length_le (by omega)
   rw [e] at e7 e8
   refine ⟨fun y=>y.1=gC x S'∧y.2=i2,⟨fun c=>⟨g0,hlt,by omega,?_,rfl⟩,fun c=>⟨(e8 (Classical.not_not.1 c)).1,rfl⟩⟩,fun y hy=>?_⟩
   ·obtain ⟨h7,h8⟩:=e7 c
    show next++[at_ a i2]=_
    rw [h7,hx,vF h8]
   ·obtain ⟨T,j⟩:=y
    obtain ⟨f1,f2⟩:=hy
    simp only at f1 f2 ⊢
    subst f1; subst f2
    exact ⟨by omega,by omega,⟨by omega,by omega,st⟩,by omega⟩
 ·rw [g2,List.take_of_length_le (by omega)]
end Go.Abs
