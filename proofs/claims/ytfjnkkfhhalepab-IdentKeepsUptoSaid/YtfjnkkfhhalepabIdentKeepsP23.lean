/- Functions, and what the code asks of them: PIdent. -/
import Derived.KernelRfl
import Derived.Test.YtfjnkkfhhalepabIdentKeepsP4
import Derived.Test.YtfjnkkfhhalepabIdentKeepsP5
import Derived.Test.YtfjnkkfhhalepabIdentKeepsP6
import Derived.Test.YtfjnkkfhhalepabIdentKeepsP9
import Derived.Test.YtfjnkkfhhalepabIdentKeepsP11
import Derived.Test.YtfjnkkfhhalepabIdentKeepsP13
import Derived.Test.YtfjnkkfhhalepabIdentKeepsP14
import Derived.Test.YtfjnkkfhhalepabIdentKeepsP15
import Derived.Test.YtfjnkkfhhalepabIdentKeepsP16
import Derived.Test.YtfjnkkfhhalepabIdentKeepsP19
import Derived.Test.YtfjnkkfhhalepabIdentKeepsP20
import Derived.Test.YtfjnkkfhhalepabIdentKeepsP21
import Derived.Test.YtfjnkkfhhalepabIdentKeepsP22
set_option maxRecDepth 100000
set_option maxHeartbeats 4000000
set_option linter.unusedVariables false
set_option linter.unusedSimpArgs false
namespace Go.Abs
open Go
theorem mV {α:Type} {P:List α→Prop} (h0:P []) (h:∀ l x,P l→P (l++[x])) (l:List α):P l:=by
 have k:∀ l:List α,P l.reverse:=fun l=>by
  induction l with
  | nil=>exact h0
  | cons x l ih =>
   rw [List.reverse_cons]
   exact h _ _ ih
 have:=k l.reverse
 rwa [List.reverse_reverse] at this
theorem aC6 (a:ByteArray):slt a a=false:=gB _
theorem jV {a b c:ByteArray} (h1:slt a b=true) (h2:slt b c=true):slt a c=true:=iQ h1 h2
theorem lV {a b:ByteArray} (h:slt a b=true):a≠b:=fun e=>by
 rw [e,aC6] at h
 cases h
theorem tU {a b:ByteArray} (h1:¬slt a b=true) (h2:a≠b):slt b a=true:=by
 rcases rX.1 (Bool.eq_false_iff.2 h1) with h | h
 ·exact k7.2 h
 ·exact absurd h.symm h2
def SK (l:List bK):Prop:=l.Pairwise fun x y=>slt x.1 y.1=true
def pD (l:List bK) (k:ByteArray):Option ByteArray:=l.foldl (fun o x=>if x.1=k then some x.2 else o) none
theorem oU (l:List bK) (x:bK) (k:ByteArray):pD (l++[x]) k=if x.1=k then some x.2 else pD l k:=by
 unfold pD
 rw [List.foldl_append]
 rfl
theorem gZ (l:List bK) (x:bK):aR (l++[x])=gH x (aR l):=by
 unfold aR
 rw [List.foldl_append]
 rfl
theorem sM (x z:bK):∀ {S:List bK},SK S→(z∈gH x S↔z=x∨(z∈S∧z.1≠x.1))
 | [],_=>by simp [gH]
 | y::S,h=>by
  obtain ⟨h1,h2⟩:=List.pairwise_cons.1 h
  unfold gH
  split
  next c =>
   rw [List.mem_cons,sM x z h2,List.mem_cons]
   constructor
   ·rintro (rfl | rfl | ⟨e,f⟩)
    ·exact .inr ⟨.inl rfl,lV c⟩
    ·exact .inl rfl
    ·exact .inr ⟨.inr e,f⟩
   ·rintro (rfl | ⟨rfl | e,f⟩)
    ·exact .inr (.inl rfl)
    ·exact .inl rfl
    ·exact .inr (.inr ⟨e,f⟩)
  next c =>
   split
   next d =>
    rw [List.mem_cons,List.mem_cons]
    constructor
    ·rintro (rfl | e)
     ·exact .inl rfl
     ·exact .inr ⟨.inr e,fun k=>lV (h1 z e) (d.trans k.symm)⟩
    ·rintro (rfl | ⟨rfl | e,f⟩)
     ·exact .inl rfl
     ·exact absurd d f
     ·exact .inr e
   next d =>
    have lt:=tU c d
    rw [List.mem_cons,List.mem_cons]
    constructor
    ·rintro (rfl | rfl | e)
     ·exact .inl rfl
     ·exact .inr ⟨.inl rfl,d⟩
     ·exact .inr ⟨.inr e,fun k=>lV (jV lt (h1 z e)) k.symm⟩
    ·rintro (rfl | ⟨rfl | e,f⟩)
     ·exact .inl rfl
     ·exact .inr (.inl rfl)
     ·exact .inr (.inr e)
theorem aCZ (x:bK):∀ {S:List bK},SK S→SK (gH x S)
 | [],_=>List.pairwise_cons.2 ⟨fun _ h=>absurd h List.not_mem_nil,List.Pairwise.nil⟩
 | y::S,h=>by
  obtain ⟨h1,h2⟩:=List.pairwise_cons.1 h
  unfold gH
  split
  next c =>
   refine List.pairwise_cons.2 ⟨fun z hz=>?_,aCZ x h2⟩
   rcases (sM x z h2).1 hz with rfl | ⟨e,_⟩
   ·exact c
   ·exact h1 z e
  next c =>
   split
   next d =>
    refine List.pairwise_cons.2 ⟨fun z hz=>?_,h2⟩
    rw [← d]
    exact h1 z hz
   next d =>
    have lt:=tU c d
    refine List.pairwise_cons.2 ⟨fun z hz=>?_,h⟩
    rcases List.mem_cons.1 hz with rfl | hz
    ·exact lt
    ·exact jV lt (h1 z hz)
theorem n7 (l:List bK):SK (aR l):=by
 induction l using mV with
 | h0=>exact List.Pairwise.nil
 | h l x ih =>
  rw [gZ]
  exact aCZ x ih
theorem y2 (l:List bK) (z:bK):z∈aR l↔pD l z.1=some z.2:=by
 induction l using mV with
 | h0=>exact ⟨fun h=>absurd h List.not_mem_nil,fun h=>by cases h⟩
 | h l x ih =>
  rw [gZ,sM x z (n7 l),oU,ih]
  obtain ⟨a,b⟩:=x
  obtain ⟨c,d⟩:=z
  simp only [Prod.mk.injEq]
  by_cases h:a=c
  ·rw [if_pos h,Option.some.injEq]
   constructor
   ·rintro (⟨_,e⟩ | ⟨_,e⟩)
    ·exact e.symm
    ·exact absurd h.symm e
   ·exact fun e=>.inl ⟨h.symm,e.symm⟩
  ·rw [if_neg h]
   constructor
   ·rintro (⟨e,_⟩ | ⟨e,_⟩)
    ·exact absurd e.symm h
    ·exact e
   ·exact fun e=>.inr ⟨e,fun k=>h k.symm⟩
theorem SK.key {S:List bK} (h:SK S) {x y:bK} (hx:x∈S) (hy:y∈S) (e:x.1=y.1):x=y:=by
 induction S with
 | nil=>cases hx
 | cons z S ih =>
  obtain ⟨h1,h2⟩:=List.pairwise_cons.1 h
  rcases List.mem_cons.1 hx with cx | cx
  ·rcases List.mem_cons.1 hy with cy | cy
   ·rw [cx,cy]
   ·rw [cx] at e
    exact absurd e (lV (h1 y cy))
  ·rcases List.mem_cons.1 hy with cy | cy
   ·rw [cy] at e
    exact absurd e.symm (lV (h1 x cx))
   ·exact ih h2 cx cy
theorem SK.uniq:∀ {S T:List bK},SK S→SK T→(∀ z,z∈S↔z∈T)→S=T
 | [],[],_,_,_=>rfl
 | [],y::T,_,_,e=>absurd ((e y).2 (List.mem_cons_self ..)) List.not_mem_nil
 | x::S,[],_,_,e=>absurd ((e x).1 (List.mem_cons_self ..)) List.not_mem_nil
 | x::S,y::T,h,k,e=>by
  obtain ⟨h1,h2⟩:=List.pairwise_cons.1 h
  obtain ⟨k1,k2⟩:=List.pairwise_cons.1 k
  have xy:x=y:=by
   rcases List.mem_cons.1 ((e x).1 (List.mem_cons_self ..)) with c | c
   ·exact c
   ·rcases List.mem_cons.1 ((e y).2 (List.mem_cons_self ..)) with d | d
    ·exact d.symm
    ·have:=jV (k1 x c) (h1 y d)
     rw [aC6] at this
     cases this
  subst xy
  refine congrArg (x::·) (SK.uniq h2 k2 fun z=>⟨fun hz=>?_,fun hz=>?_⟩)
  ·rcases List.mem_cons.1 ((e z).1 (List.mem_cons_of_mem _ hz)) with c | c
   ·exact absurd (congrArg Prod.fst c.symm) (lV (h1 z hz))
   ·exact c
  ·rcases List.mem_cons.1 ((e z).2 (List.mem_cons_of_mem _ hz)) with c | c
   ·exact absurd (congrArg Prod.fst c.symm) (lV (k1 z hz))
   ·exact c
theorem wN {x:bK}:∀ {S:List bK},(∀ y∈S,slt y.1 x.1=true)→gH x S=S++[x]
 | [],_=>rfl
 | y::S,h=>by
  unfold gH
  rw [if_pos (h y (List.mem_cons_self ..)),wN fun z hz=>h z (List.mem_cons_of_mem _ hz)]
  rfl
theorem tW {x y:bK} (U:List bK) (h:¬slt y.1 x.1=true):∀ {T:List bK},(∀ z∈T,slt z.1 x.1=true)→gH x (T++y::U)=T++(if y.1=x.1 then x::U else x::y::U)
 | [],_=>by
  show gH x (y::U)=_
  unfold gH
  rw [if_neg h]
  rfl
 | z::T,k=>by
  show gH x (z::(T++y::U))=_
  unfold gH
  rw [if_pos (k z (List.mem_cons_self ..)),tW U h fun q hq=>k q (List.mem_cons_of_mem _ hq)]
  rfl
theorem vZ {x:bK} (y:bK):∀ {T:List bK},(∃ z∈T,¬slt z.1 x.1=true)→gH x (T++[y])=gH x T++[y]
 | [],h=>by
  obtain ⟨_,h,_⟩:=h
  cases h
 | z::T,h=>by
  show gH x (z::(T++[y]))=_
  unfold gH
  by_cases c:slt z.1 x.1=true
  ·rw [if_pos c,if_pos c,vZ y]
   ·rfl
   ·obtain ⟨q,hq,k⟩:=h
    rcases List.mem_cons.1 hq with e | hq
    ·rw [e] at k
     exact absurd c k
    ·exact ⟨q,hq,k⟩
  ·rw [if_neg c,if_neg c]
   split <;> rfl
theorem tK (x:bK):∀ S:List bK,(gH x S).length≤S.length+1
 | []=>Nat.le_refl _
 | y::S=>by
  unfold gH
  have:=tK x S
  split
  ·rw [List.length_cons,List.length_cons]
   omega
  ·split <;> simp only [List.length_cons] <;> omega
theorem lL (l:List bK):(aR l).length≤l.length:=by
 induction l using mV with
 | h0=>exact Nat.le_refl _
 | h l x ih =>
  have:=tK x (aR l)
  rw [gZ,List.length_append,List.length_singleton]
  omega
theorem aIG {l:List bK} (h:SK l) {i j:Nat} (hij:i < j) (hj:j < l.length):slt (l.getD i default).1 (l.getD j default).1=true:=by
 have:=List.pairwise_iff_getElem.1 h i j (by omega) hj hij
 rwa [iY (by omega),iY hj]
theorem aE3 (k:ByteArray):fR ([]:List bK) k=false:=decide_eq_false (Nat.lt_irrefl 0)
theorem fW (x:bK) (l:List bK) (k:ByteArray):fR (x::l) k=(decide (x.1=k) || fR l k):=by
 obtain ⟨a,b⟩:=x
 unfold fR
 rw [List.length_cons,mK]
 by_cases h:a=k
 ·rw [if_pos h,decide_eq_true (Nat.succ_pos _),decide_eq_true h]
  rfl
 ·rw [if_neg h,decide_eq_false h,Bool.false_or]
  exact decide_eq_decide.2 (by omega)
theorem lR (x:bK) (l:List bK) (k:ByteArray):mat (x::l) k=if x.1=k then x.2 else mat l k:=by
 obtain ⟨a,b⟩:=x
 unfold mat
 rw [List.length_cons,mK]
 by_cases h:a=k
 ·rw [if_pos h,if_pos h]
  rfl
 ·rw [if_neg h,if_neg h,List.getD_cons_succ]
theorem aA8 (k v q:ByteArray):∀ m:List bK,fR (eB m k v) q=(decide (k=q) || fR m q)
 | []=>by
  show fR [(k,v)] q=_
  rw [fW]
 | (a,b)::m=>by
  unfold eB
  by_cases h:a=k
  ·rw [if_pos h,fW,fW,h]
   simp only
   cases decide (k=q) <;> rfl
  ·rw [if_neg h,fW,aA8 k v q m,fW]
   simp only
   cases decide (k=q) <;> cases decide (a=q) <;> rfl
theorem aAR (k v q:ByteArray):∀ m:List bK,mat (eB m k v) q=if k=q then v else mat m q
 | []=>by
  show mat [(k,v)] q=_
  rw [lR]
 | (a,b)::m=>by
  unfold eB
  by_cases h:a=k
  ·rw [if_pos h,lR,lR,h]
   simp only
   split <;> rfl
  ·rw [if_neg h,lR,aAR k v q m,lR]
   simp only
   by_cases c:k=q
   ·rw [if_pos c,if_pos c,if_neg fun e=>h (e.trans c.symm)]
   ·rw [if_neg c,if_neg c]
theorem lN (m:List bK) (k:ByteArray):fR m k=true↔k∈m.map Prod.fst:=by
 induction m with
 | nil=>simp [aE3]
 | cons x m ih =>
  rw [fW,Bool.or_eq_true,decide_eq_true_eq,ih,List.map_cons,List.mem_cons]
  exact or_congr ⟨Eq.symm,Eq.symm⟩ Iff.rfl
theorem fO (k v:ByteArray):∀ m:List bK,(eB m k v).map Prod.fst=if fR m k=true then m.map Prod.fst else m.map Prod.fst++[k]
 | []=>rfl
 | (a,b)::m=>by
  unfold eB
  rw [fW]
  by_cases h:a=k
  ·rw [if_pos h,if_pos (by rw [decide_eq_true h]; rfl),h]
   rfl
  ·rw [if_neg h,decide_eq_false h,Bool.false_or,List.map_cons,fO k v m]
   by_cases c:fR m k=true
   ·rw [if_pos c,if_pos c]
    rfl
   ·rw [if_neg c,if_neg c]
    rfl
def c6 (l:List bK):List bK:=l.foldl (fun m x=>eB m x.1 x.2) []
theorem iA (l:List bK) (x:bK):c6 (l++[x])=eB (c6 l) x.1 x.2:=by
 unfold c6
 rw [List.foldl_append]
 rfl
theorem aCI (l:List bK) (k:ByteArray):pD l k=if fR (c6 l) k=true then some (mat (c6 l) k) else none:=by
 induction l using mV with
 | h0=>rfl
 | h l x ih =>
  rw [oU,iA,aA8,aAR,ih]
  by_cases c:x.1=k
  ·rw [if_pos c,if_pos c,decide_eq_true c,Bool.true_or,if_pos rfl]
  ·rw [if_neg c,if_neg c,decide_eq_false c,Bool.false_or]
theorem aAJ (l:List bK):((c6 l).map Prod.fst).Nodup:=by
 induction l using mV with
 | h0=>exact List.nodup_nil
 | h l x ih =>
  rw [iA,fO]
  by_cases c:fR (c6 l) x.1=true
  ·rw [if_pos c]
   exact ih
  ·rw [if_neg c]
   refine List.nodup_append.2 ⟨ih,List.nodup_cons.2 ⟨List.not_mem_nil,List.nodup_nil⟩,fun a ha b hb=>?_⟩
   rw [List.mem_singleton.1 hb]
   exact fun e=>c ((lN _ _).2 (e ▸ ha))
theorem mW (l:List bK):(c6 l).length≤l.length:=by
 induction l using mV with
 | h0=>exact Nat.le_refl _
 | h l x ih =>
  have e:=congrArg List.length (fO x.1 x.2 (c6 l))
  rw [List.length_map] at e
  rw [iA,e,List.length_append,List.length_singleton]
  split
  ·rw [List.length_map]
   omega
  ·rw [List.length_append,List.length_map,List.length_singleton]
   omega
theorem kI:Weak slt:=⟨fun h=>tS h,fun {x y z} h1 h2=>Bool.eq_false_iff.2 fun h=>by
 rcases rX.1 h1 with c | c
 ·rw [jV h (k7.2 c)] at h2
  cases h2
 ·rw [c,h2] at h
  cases h⟩
theorem q7 (x:ByteArray):∀ {S:List ByteArray},(S.Pairwise fun a b=>slt a b=true)→(∀ y∈S,y≠x)→(sN slt x S).Pairwise fun a b=>slt a b=true
 | [],_,_=>List.pairwise_cons.2 ⟨fun _ h=>absurd h List.not_mem_nil,List.Pairwise.nil⟩
 | y::S,h,k=>by
  obtain ⟨h1,h2⟩:=List.pairwise_cons.1 h
  unfold sN
  split
  next c =>
   refine List.pairwise_cons.2 ⟨fun z hz=>?_,q7 x h2 fun z hz=>k z (List.mem_cons_of_mem _ hz)⟩
   rcases List.mem_cons.1 (FE.mem kI (rY kI x S) hz) with rfl | hz
   ·exact c
   ·exact h1 z hz
  next c =>
   have lt:=tU c (k y (List.mem_cons_self ..))
   refine List.pairwise_cons.2 ⟨fun z hz=>?_,h⟩
   rcases List.mem_cons.1 hz with rfl | hz
   ·exact lt
   ·exact jV lt (h1 z hz)
theorem qZ:∀ {l:List ByteArray},l.Nodup→(jO slt l).Pairwise fun a b=>slt a b=true
 | [],_=>List.Pairwise.nil
 | x::l,h=>by
  obtain ⟨h1,h2⟩:=List.nodup_cons.1 h
  exact q7 x (qZ h2) fun y hy e=>h1 (e ▸ (jJ kI).1 hy)
theorem rK (l:List bK):((jO slt ((c6 l).map Prod.fst)).map fun k=>(k,mat (c6 l) k))=aR l:=by
 refine SK.uniq ?_ (n7 l) fun z=>?_
 ·unfold SK
  rw [List.pairwise_map]
  exact qZ (aAJ l)
 ·rw [y2,aCI,List.mem_map]
  obtain ⟨a,b⟩:=z
  constructor
  ·rintro ⟨k,hk,e⟩
   obtain ⟨rfl,rfl⟩:=Prod.mk.inj e
   rw [jJ kI,← lN] at hk
   exact if_pos hk
  ·intro h
   simp only at h
   by_cases c:fR (c6 l) a=true
   ·rw [if_pos c] at h
    exact ⟨a,(jJ kI).2 ((lN _ _).1 c),Prod.ext rfl (Option.some.inj h)⟩
   ·rw [if_neg c] at h
    cases h
set_option linter.unusedVariables false
def f217.kills (a:ByteArray×ByteArray):List Hint:=[]
def f217.cuts (a:ByteArray×ByteArray):List (Nat×Σ β:Type,β→Tm):=[]
def f217.af (a:ByteArray×ByteArray):AF:=AF.mk (.seq (.region [⟨(some 4),0,.move,[.c (.bool false)],none⟩])
 (.seq (.region [mT 5 1 0,
 oT 6 2 (.call false 200) [5],
 mT 7 6 6,
 oG 8 7 .move [1] 7 true,
 oG 9 8 (.call false 200) [8] 7 true,
 oG 10 12 (.un .not) [9] 7 true,
 ⟨(some 11),13,.pick,[.t 7,.t 10,.c (.bool false)],none⟩,
 mT 12 14 11,
 oG 13 15 .move [0] 12 false,
 oG 14 16 .move [1] 12 false,
 oG 15 17 (.bin .lss) [13,14] 12 false,
 ⟨(some 16),18,.pick,[.t 12,.c (.bool true),.t 15],none⟩,
 mT 4 19 16])
 (.ret)))
 [.tmp 4] 0 15
def f217.env:Env:=[(200,f200.C)]
def f217.tree (a:ByteArray×ByteArray):Prop:=∃ c1:ByteArray,(a.1=c1)∧True∧Br ((fun _:ByteArray=>false) c1) (∃ c4:ByteArray,(a.2=c4)∧True∧Br (!((fun _:ByteArray=>false) c4)) ((true=(bM a))∧True) (((Op.bytesLess a.1.toList a.2.toList)=(bM a))∧True)) (((Op.bytesLess a.1.toList a.2.toList)=(bM a))∧True)
def f217.vc (a:ByteArray×ByteArray):Prop:=((((fun _:ByteArray=>false) (a.1))=true→((¬(((fun _:ByteArray=>false) (a.2))=true)→(true=bM a))∧(¬(¬(((fun _:ByteArray=>false) (a.2))=true))→(Op.bytesLess a.1.toList a.2.toList=bM a))))∧(¬(((fun _:ByteArray=>false) (a.1))=true)→(Op.bytesLess a.1.toList a.2.toList=bM a)))
theorem f217.of (a:ByteArray×ByteArray) (h:f217.vc a):f217.tree a:=⟨a.1,⟨rfl,⟨trivial,br h Cnd.b (fun h2 k13=>⟨a.2,⟨rfl,⟨trivial,br k13 (Cnd.not Cnd.b) (fun h5 k9=>⟨k9,trivial⟩) (fun h6 k10=>⟨k10,trivial⟩)⟩⟩⟩) (fun h3 k14=>⟨k14,trivial⟩)⟩⟩⟩
theorem f217.eq (a:ByteArray×ByteArray):(f217.af a).gives f217.env (f217.args a) (f217.blks a) (f217.res a) (f217.blks' a)=f217.tree a:=by kernel_rfl
def f384.ent (K:(List (aC))→Prop) (t:List (aC)):Prop:=∃ c:List (aC),SlQ t.length c.length (gl aB t) (gl aB c) (K c)
theorem f384.ei {K:(List (aC))→Prop} {t:List (aC)} (h:K t):f384.ent K t:=⟨t,slQ (rS aB) (h)⟩
def f384.args (a:List (aC)):List D:=[.slice .ro 2 a.length (gl aB a)]
def f384.blks (a:List (aC)):List (List D):=[]
def f384.res (a:List (aC)):List D:=[.bool (oQ a)]
def f384.blks' (a:List (aC)):List (List D):=[]
def f384.C:aK:=FnC f384.args f384.blks (fun a=>lZ a) f384.res f384.blks'
def f384.S0 (a:List (aC)) (x:Int):Tm:=⟨[.slice .ro 2 a.length (gl aB a),.dead,.dead,.dead,.dead,.dead,.dead,.dead,.int .i64 (a.length:Int),.int .i64 x,.dead,.dead,.dead,.dead,.dead,.dead,.dead,.dead,.dead,.dead,.dead,.dead,.dead,.dead,.dead,.dead,.dead],[],[]⟩
def f384.kills (a:List (aC)):List Hint:=[.tell Int (f384.S0 a)]
def f384.cuts (a:List (aC)):List (Nat×Σ β:Type,β→Tm):=[]
def f384.af (a:List (aC)):AF:=AF.mk (.seq (.region [⟨(some 2),0,.move,[.c (.bool false)],none⟩])
 (.seq (.seq (.region [mT 4 1 0,
 oT 5 2 (.len false) [4],
 ⟨(some 6),3,(.bin .gtr),[.t 5,.c (.int .i64 (300))],none⟩])
 (.cond (.t 6) (.seq (.region [⟨(some 2),4,.move,[.c (.bool false)],none⟩])
 (.ret)) (.skip)))
 (.seq (.seq (.region [mT 7 5 0,
 oT 8 6 (.len false) [7],
 ⟨(some 9),7,.move,[.c (.int .i64 (0))],none⟩])
 (.block 0 (.loopT Int (f384.S0 a) 8 28 (.seq (.region [oT 10 8 (.bin .lss) [9,8]])
 (.seq (.cond (.t 10) (.skip) (.exit 0))
 (.seq (.block 1 (.seq (.region [mT 11 9 9,
 mT 3 10 11])
 (.seq (.region [mT 12 11 0,
 mT 13 12 3,
 oT 14 13 (.indexAddr 2 none) [12,13],
 oT 15 14 (.fieldAddr 0) [14],
 oT 16 15 (.load false 1) [15],
 oT 17 16 (.len true) [16],
 mT 18 17 0,
 mT 19 18 3,
 oT 20 19 (.indexAddr 2 none) [18,19],
 oT 21 20 (.fieldAddr 1) [20],
 oT 22 21 (.load false 1) [21],
 oT 23 22 (.len true) [22],
 oT 24 23 (.bin .add) [17,23],
 ⟨(some 25),24,(.bin .gtr),[.t 24,.c (.int .i64 (1000))],none⟩])
 (.cond (.t 25) (.seq (.region [⟨(some 2),25,.move,[.c (.bool false)],none⟩])
 (.ret)) (.skip)))))
 (.region [⟨(some 26),26,(.bin .add),[.t 9,.c (.int .i64 (1))],none⟩,
 mT 9 27 26])))))))
 (.seq (.region [⟨(some 2),28,.move,[.c (.bool true)],none⟩])
 (.ret)))))
 [.tmp 2] 0 26
def f384.env:Env:=[]
def f384.tree (a:List (aC)):Prop:=Br (decide ((300:Int) < (a.length:Int))) ((false=(oQ a))∧True) (∃ (I5:Int→Prop) (μ6:Int→Nat),(∃ x4:Int,SlS aB a (((a.length:Int)=(a.length:Int))∧((0:Int)=x4)∧I5 x4))∧∀ y7:Int,I5 y7→(Br (decide (y7 < (a.length:Int))) (Br (decide ((0:Int)≤y7)&&decide (y7 < (a.length:Int))) (Br (decide ((0:Int)≤y7)&&decide (y7 < (a.length:Int))) (Let (wI ((((at_ a y7).1).size:Int)+(((at_ a y7).2).size:Int))) (fun v12:Int=>Br (decide ((1000:Int) < v12)) ((false=(oQ a))∧True) (Let (wI (y7+(1:Int))) (fun v16:Int=>∃ x17:Int,SlS aB a (((a.length:Int)=(a.length:Int))∧(v16=x17)∧I5 x17∧μ6 x17 < μ6 y7))))) False) False) ((true=(oQ a))∧True)))
def f384.vc (a:List (aC)):Prop:=(((300:Int) < (a.length:Int)→(false=oQ a))∧(¬((300:Int) < (a.length:Int))→(∃ (I5:Int→Prop) (μ6:Int→Nat),I5 (0:Int)∧∀ y7:Int,I5 y7→((y7 < (a.length:Int)→((0:Int)≤y7∧y7 < (a.length:Int)∧((0:Int)≤y7∧y7 < (a.length:Int)∧(-9223372036854775808≤((((at_ a y7).1).size:Int)+(((at_ a y7).2).size:Int))∧((((at_ a y7).1).size:Int)+(((at_ a y7).2).size:Int))≤9223372036854775807∧(((1000:Int) < ((((at_ a y7).1).size:Int)+(((at_ a y7).2).size:Int))→(false=oQ a))∧(¬((1000:Int) < ((((at_ a y7).1).size:Int)+(((at_ a y7).2).size:Int)))→(-9223372036854775808≤(y7+(1:Int))∧(y7+(1:Int))≤9223372036854775807∧(I5 (y7+(1:Int))∧μ6 (y7+(1:Int)) < μ6 y7))))))))∧(¬(y7 < (a.length:Int))→(true=oQ a))))))
theorem f384.of (a:List (aC)) (h:f384.vc a):f384.tree a:=br h Cnd.dec (fun h1 k35=>⟨k35,trivial⟩) (fun h2 k36=>Exists.elim k36 (fun I5 h32_=>Exists.elim h32_ (fun μ6 h32=>⟨I5,μ6,⟨(0:Int),SlS.mk  (⟨rfl,⟨rfl,h32.1⟩⟩)⟩,fun y7 h34=>br (h32.2 y7 h34) Cnd.dec (fun h8 k30=>chk k30.2.2 Cnd.ix ⟨k30.1,k30.2.1⟩ (fun h10 k28=>chk k28.2.2 Cnd.ix ⟨k28.1,k28.2.1⟩ (fun h11 k27=>wrapK.i64 k27 (fun h24 h25 k26=>br k26 Cnd.dec (fun h13 k22=>⟨k22,trivial⟩) (fun h14 k23=>wrapK.i64 k23 (fun h19 h20 k21=>⟨(y7+(1:Int)),SlS.mk  (⟨rfl,⟨rfl,k21⟩⟩)⟩)))))) (fun h9 k31=>⟨k31,trivial⟩)⟩)))
theorem f384.eq (a:List (aC)):(f384.af a).gives f384.env (f384.args a) (f384.blks a) (f384.res a) (f384.blks' a)=f384.tree a:=by kernel_rfl
def f385.args (a:List (aC)):List D:=[.slice .ro 2 a.length (gl aB a)]
def f385.blks (a:List (aC)):List (List D):=[]
def f385.res (a:List (aC)):List D:=[.slice .ro 2 ((aR a).length) (gl aB (aR a))]
def f385.blks' (a:List (aC)):List (List D):=[]
def f385.C:aK:=FnC f385.args f385.blks (fun a=>L20 a) f385.res f385.blks'
def f385.S0 (a:List (aC)) (x:Int×(List (ByteArray×ByteArray))×(List (ByteArray))):Tm:=⟨[.dead,.dead,.dead,.mref 1000001,.msl 1000004 1 x.2.2.length,.dead,.dead,.dead,.dead,.dead,.dead,.dead,.dead,.slice .ro 2 a.length (gl aB a),.int .i64 (a.length:Int),.int .i64 x.1,.dead,.dead,.dead,.dead,.dead,.dead,.dead,.dead,.dead,.dead,.dead,.dead,.dead,.dead,.dead,.dead,.dead,.dead,.dead,.dead,.dead,.dead,.dead,.dead,.dead,.dead,.dead,.dead,.dead,.dead,.dead,.dead,.dead,.dead,.dead,.dead,.dead,.dead,.dead,.dead,.dead],[(1000001,false,[.dead,.mp false x.2.1.length (mks x.2.1) (mvs aA x.2.1)]),(1000004,false,[.dead,.arr true 1 x.2.2.length (gl aA x.2.2)])],[]⟩
def f385.S1 (a:List (aC)) (x:(List (aC))×(List (ByteArray))×Int×Int×(List (ByteArray×ByteArray))):Tm:=⟨[.dead,.dead,.dead,.mref 1000001,.dead,.dead,.dead,.dead,.dead,.slice (.own 1000045) 2 x.1.length (gl aB x.1),.dead,.dead,.dead,.dead,.dead,.dead,.dead,.dead,.dead,.dead,.dead,.dead,.dead,.dead,.dead,.dead,.dead,.dead,.dead,.dead,.dead,.dead,.dead,.dead,.dead,.dead,.dead,.dead,.dead,.dead,.dead,.slice .ro 1 x.2.1.length (gl aA x.2.1),.int .i64 x.2.2.1,.int .i64 x.2.2.2.1,.dead,.dead,.dead,.dead,.dead,.dead,.dead,.dead,.dead,.dead,.dead,.dead,.dead],[(1000001,false,[.dead,.mp false x.2.2.2.2.length (mks x.2.2.2.2) (mvs aA x.2.2.2.2)])],[(1000045,2,x.1.length)]⟩
def f385.kills (a:List (aC)):List Hint:=[.tell (Int×(List (ByteArray×ByteArray))×(List (ByteArray))) (f385.S0 a),
 .tell ((List (aC))×(List (ByteArray))×Int×Int×(List (ByteArray×ByteArray))) (f385.S1 a)]
def f385.cuts (a:List (aC)):List (Nat×Σ β:Type,β→Tm):=[(999999,⟨Unit,fun x=>⟨[],[],[]⟩⟩),
 (1000004000002,⟨Unit,fun x=>⟨[],[],[]⟩⟩),
 (2000004000012,⟨Unit,fun x=>⟨[],[],[]⟩⟩)]
def f385.af (a:List (aC)):AF:=AF.mk (.seq (.region [oR 2 0 (.nilSl 2) []])
 (.seq (.region [oR 12 1 (.mkMap false false) [],
 mR 3 2 12])
 (.seq (.region [oR 4 3 (.nilSl 1) []])
 (.seq (.thaw 1000004 4) (.seq (.seq (.region [mR 13 5 0,
 oR 14 6 (.len false) [13],
 ⟨(some 15),1000007,.move,[.c (.int .i64 (0))],none⟩])
 (.block 0 (.loopT (Int×(List (ByteArray×ByteArray))×(List (ByteArray))) (f385.S0 a) 1000008 1000040 (.seq (.region [oR 16 8 (.bin .lss) [15,14]])
 (.seq (.cond (.t 16) (.skip) (.exit 0))
 (.seq (.block 1 (.seq (.region [oR 17 9 (.indexAddr 2 none) [13,15],
 oR 18 10 (.load true 2) [17],
 oR 6 11 (.alloc [.str ByteArray.empty,.str ByteArray.empty]) [],
 ⟨none,1000014,(.store 2),[.t 6,.t 18],none⟩])
 (.seq (.seq (.region [mR 20 15 3,
 oR 21 16 (.fieldAddr 0) [6],
 oR 22 17 (.load false 1) [21],
 oR 23 18 (.mapGet true false [.str ByteArray.empty]) [20,22],
 mR 19 19 23,
 oR 24 20 (.extract 0) [19],
 oR 25 21 (.extract 1) [19],
 mR 7 22 24,
 mR 8 23 25])
 (.seq (.region [mR 26 24 8,
 oR 27 25 (.un .not) [26]])
 (.cond (.t 27) (.region [mR 28 26 4,
 oR 29 27 (.fieldAddr 0) [6],
 oR 30 28 (.load false 1) [29],
 oR 31 29 (.buildSlice 1 1 [.str ByteArray.empty] [(0,1)]) [30],
 oR 32 30 (.append 1 16) [28,31],
 mR 4 31 32]) (.skip))))
 (.region [mR 33 32 3,
 oR 34 33 (.fieldAddr 0) [6],
 oR 35 34 (.load false 1) [34],
 oR 36 35 (.fieldAddr 1) [6],
 oR 37 36 (.load false 1) [36],
 ⟨none,1000037,.mapSet,[.t 33,.t 35,.t 37],none⟩]))))
 (.region [⟨(some 38),1000038,(.bin .add),[.t 15,.c (.int .i64 (1))],none⟩,
 mR 15 39 38])))))))
 (.seq (.region [mR 39 40 4,
 oR 40 41 (.call true 167) [39]])
 (.seq (.frz 4) (.seq (.region [oR 9 45 (.nilSl 2) []])
 (.seq (.seq (.region [mR 41 46 4,
 oR 42 47 (.len false) [41],
 ⟨(some 43),1000048,.move,[.c (.int .i64 (0))],none⟩])
 (.block 2 (.loopT ((List (aC))×(List (ByteArray))×Int×Int×(List (ByteArray×ByteArray))) (f385.S1 a) 1000049 1000064 (.seq (.region [oR 44 49 (.bin .lss) [43,42]])
 (.seq (.cond (.t 44) (.skip) (.exit 2))
 (.seq (.block 3 (.seq (.region [oR 45 50 (.indexAddr 1 none) [41,43],
 oR 46 51 (.load false 1) [45],
 mR 11 52 46])
 (.region [mR 47 53 9,
 mR 48 54 11,
 mR 49 55 3,
 mR 50 56 11,
 oR 51 57 (.mapGet false false [.str ByteArray.empty]) [49,50],
 oR 52 58 (.build [.str ByteArray.empty,.str ByteArray.empty] [(0,1),(1,1)]) [48,51],
 oR 53 59 (.buildSlice 2 1 [.str ByteArray.empty,.str ByteArray.empty] [(0,2)]) [52],
 oR 54 60 (.append 2 32) [47,53],
 mR 9 61 54])))
 (.region [⟨(some 55),1000062,(.bin .add),[.t 43,.c (.int .i64 (1))],none⟩,
 mR 43 63 55])))))))
 (.seq (.region [mR 56 64 9,
 mR 2 65 56])
 (.ret)))))))))))
 [.tmp 2] 0 56
def f385.env:Env:=[(167,f167.C)]
def f385.tree (a:List (aC)):Prop:=∃ (I2:(Int×(List (ByteArray×ByteArray))×(List (ByteArray)))→Prop) (μ3:(Int×(List (ByteArray×ByteArray))×(List (ByteArray)))→Nat),(∃ x1:Int×(List (ByteArray×ByteArray))×(List (ByteArray)),(0=x1.2.2.length)∧SlS aB a (((a.length:Int)=(a.length:Int))∧((0:Int)=x1.1)∧(0=x1.2.1.length)∧(∀ i,i < x1.2.1.length→(fun _=>.empty) i=(mks x1.2.1) i)∧(∀ i,i < x1.2.1.length→DEqs (eU i) ((mvs aA x1.2.1) i))∧SlQ 0 x1.2.2.length eU (gl aA x1.2.2) (I2 x1)))∧∀ y4:Int×(List (ByteArray×ByteArray))×(List (ByteArray)),I2 y4→(Br (decide (y4.1 < (a.length:Int))) (Br (decide ((0:Int)≤y4.1)&&decide (y4.1 < (a.length:Int))) (Br (fR y4.2.1 ((at_ a y4.1).1)) (Let (wI (y4.1+(1:Int))) (fun v10:Int=>∃ x11:Int×(List (ByteArray×ByteArray))×(List (ByteArray)),(y4.2.2.length=x11.2.2.length)∧SlS aB a (((a.length:Int)=(a.length:Int))∧(v10=x11.1)∧((mpN (mks y4.2.1) ((at_ a y4.1).1) y4.2.1.length)=x11.2.1.length)∧(∀ i,i < x11.2.1.length→(jD (mks y4.2.1) ((at_ a y4.1).1) y4.2.1.length) i=(mks x11.2.1) i)∧(∀ i,i < x11.2.1.length→DEqs ((iT (mks y4.2.1) (mvs aA y4.2.1) ((at_ a y4.1).1) [.str ((at_ a y4.1).2)] y4.2.1.length) i) ((mvs aA x11.2.1) i))∧SlQ y4.2.2.length x11.2.2.length (gl aA y4.2.2) (gl aA x11.2.2) (I2 x11∧μ3 x11 < μ3 y4)))) ((y4.2.2.length=y4.2.2.length∧kR ((y4.2.2.length+1) * 16))∧(Let (wI (y4.1+(1:Int))) (fun v16:Int=>∃ x17:Int×(List (ByteArray×ByteArray))×(List (ByteArray)),((y4.2.2.length+1)=x17.2.2.length)∧SlS aB a (((a.length:Int)=(a.length:Int))∧(v16=x17.1)∧((mpN (mks y4.2.1) ((at_ a y4.1).1) y4.2.1.length)=x17.2.1.length)∧(∀ i,i < x17.2.1.length→(jD (mks y4.2.1) ((at_ a y4.1).1) y4.2.1.length) i=(mks x17.2.1) i)∧(∀ i,i < x17.2.1.length→DEqs ((iT (mks y4.2.1) (mvs aA y4.2.1) ((at_ a y4.1).1) [.str ((at_ a y4.1).2)] y4.2.1.length) i) ((mvs aA x17.2.1) i))∧SlQ (y4.2.2.length+1) x17.2.2.length (c9 (gl aA y4.2.2) y4.2.2.length (fun _=>[.str ((at_ a y4.1).1)])) (gl aA x17.2.2) (I2 x17∧μ3 x17 < μ3 y4)))))) False) ((y4.2.2.length=y4.2.2.length)∧∃ c25:List (ByteArray),(y4.2.2.length=List.length c25)∧SlQ y4.2.2.length c25.length (gl aA y4.2.2) (gl aA c25) ((gC c25)∧((List.length ((cF slt) c25))=y4.2.2.length)∧(∃ (I28:((List (aC))×(List (ByteArray))×Int×Int×(List (ByteArray×ByteArray)))→Prop) (μ29:((List (aC))×(List (ByteArray))×Int×Int×(List (ByteArray×ByteArray)))→Nat),(∃ x27:(List (aC))×(List (ByteArray))×Int×Int×(List (ByteArray×ByteArray)),SlQ 0 x27.1.length eU (gl aB x27.1) (SlQ (List.length ((cF slt) c25)) x27.2.1.length (gl aA ((cF slt) c25)) (gl aA x27.2.1) (((List.length ((cF slt) c25):Int)=x27.2.2.1)∧((0:Int)=x27.2.2.2.1)∧(y4.2.1.length=x27.2.2.2.2.length)∧(∀ i,i < x27.2.2.2.2.length→(mks y4.2.1) i=(mks x27.2.2.2.2) i)∧(∀ i,i < x27.2.2.2.2.length→DEqs ((mvs aA y4.2.1) i) ((mvs aA x27.2.2.2.2) i))∧(0=x27.1.length)∧I28 x27)))∧∀ y30:(List (aC))×(List (ByteArray))×Int×Int×(List (ByteArray×ByteArray)),I28 y30→(Br (decide (y30.2.2.2.1 < y30.2.2.1)) (Br (decide ((0:Int)≤y30.2.2.2.1)&&decide (y30.2.2.2.1 < (y30.2.1.length:Int))) (Br (fR y30.2.2.2.2 (at_ y30.2.1 y30.2.2.2.1)) ((y30.1.length=y30.1.length∧kR ((y30.1.length+1) * 32))∧(Let (wI (y30.2.2.2.1+(1:Int))) (fun v36:Int=>∃ x37:(List (aC))×(List (ByteArray))×Int×Int×(List (ByteArray×ByteArray)),SlQ (y30.1.length+1) x37.1.length (c9 (gl aB y30.1) y30.1.length (fun _=>[.str (at_ y30.2.1 y30.2.2.2.1),.str (mat y30.2.2.2.2 (at_ y30.2.1 y30.2.2.2.1))])) (gl aB x37.1) (SlQ y30.2.1.length x37.2.1.length (gl aA y30.2.1) (gl aA x37.2.1) ((y30.2.2.1=x37.2.2.1)∧(v36=x37.2.2.2.1)∧(y30.2.2.2.2.length=x37.2.2.2.2.length)∧(∀ i,i < x37.2.2.2.2.length→(mks y30.2.2.2.2) i=(mks x37.2.2.2.2) i)∧(∀ i,i < x37.2.2.2.2.length→DEqs ((mvs aA y30.2.2.2.2) i) ((mvs aA x37.2.2.2.2) i))∧((y30.1.length+1)=x37.1.length)∧I28 x37∧μ29 x37 < μ29 y30))))) ((y30.1.length=y30.1.length∧kR ((y30.1.length+1) * 32))∧(Let (wI (y30.2.2.2.1+(1:Int))) (fun v42:Int=>∃ x43:(List (aC))×(List (ByteArray))×Int×Int×(List (ByteArray×ByteArray)),SlQ (y30.1.length+1) x43.1.length (c9 (gl aB y30.1) y30.1.length (fun _=>[.str (at_ y30.2.1 y30.2.2.2.1),.str ByteArray.empty])) (gl aB x43.1) (SlQ y30.2.1.length x43.2.1.length (gl aA y30.2.1) (gl aA x43.2.1) ((y30.2.2.1=x43.2.2.1)∧(v42=x43.2.2.2.1)∧(y30.2.2.2.2.length=x43.2.2.2.2.length)∧(∀ i,i < x43.2.2.2.2.length→(mks y30.2.2.2.2) i=(mks x43.2.2.2.2) i)∧(∀ i,i < x43.2.2.2.2.length→DEqs ((mvs aA y30.2.2.2.2) i) ((mvs aA x43.2.2.2.2) i))∧((y30.1.length+1)=x43.1.length)∧I28 x43∧μ29 x43 < μ29 y30)))))) False) ((y30.1.length=y30.1.length)∧SlQ y30.1.length ((aR a).length) (gl aB y30.1) (gl aB (aR a)) (True)))))))
def f385.vc (a:List (aC)):Prop:=(∃ (I2:(Int×(List (ByteArray×ByteArray))×(List (ByteArray)))→Prop) (μ3:(Int×(List (ByteArray×ByteArray))×(List (ByteArray)))→Nat),I2 ((0:Int),[],[])∧∀ y4:Int×(List (ByteArray×ByteArray))×(List (ByteArray)),I2 y4→((y4.1 < (a.length:Int)→((0:Int)≤y4.1∧y4.1 < (a.length:Int)∧((fR y4.2.1 ((at_ a y4.1).1)=true→(-9223372036854775808≤(y4.1+(1:Int))∧(y4.1+(1:Int))≤9223372036854775807∧(I2 ((y4.1+(1:Int)),eB y4.2.1 ((at_ a y4.1).1) ((at_ a y4.1).2),y4.2.2)∧μ3 ((y4.1+(1:Int)),eB y4.2.1 ((at_ a y4.1).1) ((at_ a y4.1).2),y4.2.2) < μ3 y4)))∧(¬(fR y4.2.1 ((at_ a y4.1).1)=true)→(y4.2.2.length+1≤1073741824∧(-9223372036854775808≤(y4.1+(1:Int))∧(y4.1+(1:Int))≤9223372036854775807∧(I2 ((y4.1+(1:Int)),eB y4.2.1 ((at_ a y4.1).1) ((at_ a y4.1).2),y4.2.2++([(at_ a y4.1).1]))∧μ3 ((y4.1+(1:Int)),eB y4.2.1 ((at_ a y4.1).1) ((at_ a y4.1).2),y4.2.2++([(at_ a y4.1).1])) < μ3 y4)))))))∧(¬(y4.1 < (a.length:Int))→(gC y4.2.2∧((List.length ((cF slt) (y4.2.2)))=y4.2.2.length∧(∃ (I28:((List (aC))×(List (ByteArray))×Int×Int×(List (ByteArray×ByteArray)))→Prop) (μ29:((List (aC))×(List (ByteArray))×Int×Int×(List (ByteArray×ByteArray)))→Nat),I28 ([],((cF slt) (y4.2.2)),(List.length ((cF slt) (y4.2.2)):Int),(0:Int),y4.2.1)∧∀ y30:(List (aC))×(List (ByteArray))×Int×Int×(List (ByteArray×ByteArray)),I28 y30→((y30.2.2.2.1 < y30.2.2.1→((0:Int)≤y30.2.2.2.1∧y30.2.2.2.1 < (y30.2.1.length:Int)∧((fR y30.2.2.2.2 (at_ y30.2.1 y30.2.2.2.1)=true→(y30.1.length+1≤1073741824∧(-9223372036854775808≤(y30.2.2.2.1+(1:Int))∧(y30.2.2.2.1+(1:Int))≤9223372036854775807∧(I28 (y30.1++([(at_ y30.2.1 y30.2.2.2.1,mat y30.2.2.2.2 (at_ y30.2.1 y30.2.2.2.1))]),y30.2.1,y30.2.2.1,(y30.2.2.2.1+(1:Int)),y30.2.2.2.2)∧μ29 (y30.1++([(at_ y30.2.1 y30.2.2.2.1,mat y30.2.2.2.2 (at_ y30.2.1 y30.2.2.2.1))]),y30.2.1,y30.2.2.1,(y30.2.2.2.1+(1:Int)),y30.2.2.2.2) < μ29 y30))))∧(¬(fR y30.2.2.2.2 (at_ y30.2.1 y30.2.2.2.1)=true)→(y30.1.length+1≤1073741824∧(-9223372036854775808≤(y30.2.2.2.1+(1:Int))∧(y30.2.2.2.1+(1:Int))≤9223372036854775807∧(I28 (y30.1++([(at_ y30.2.1 y30.2.2.2.1,ByteArray.empty)]),y30.2.1,y30.2.2.1,(y30.2.2.2.1+(1:Int)),y30.2.2.2.2)∧μ29 (y30.1++([(at_ y30.2.1 y30.2.2.2.1,ByteArray.empty)]),y30.2.1,y30.2.2.1,(y30.2.2.2.1+(1:Int)),y30.2.2.2.2) < μ29 y30)))))))∧(¬(y30.2.2.2.1 < y30.2.2.1)→(y30.1=aR a)))))))))
theorem f385.of (a:List (aC)) (h:f385.vc a):f385.tree a:=Exists.elim h (fun I2 h60_=>Exists.elim h60_ (fun μ3 h60=>⟨I2,μ3,⟨((0:Int),[],[]),⟨(aV eU (Rds.nil (enc:=aA))),SlS.mk  (⟨rfl,⟨rfl,mpK Mds.nil (slQ (Rds.nil (enc:=aA)) (h60.1))⟩⟩)⟩⟩,fun y4 h62=>br (h60.2 y4 h62) Cnd.dec (fun h5 k58=>chk k58.2.2 Cnd.ix ⟨k58.1,k58.2.1⟩ (fun h7 k24=>br k24 Cnd.b (fun h8 k22=>wrapK.i64 k22 (fun h13 h14 k15=>⟨((y4.1+(1:Int)),eB y4.2.1 ((at_ a y4.1).1) ((at_ a y4.1).2),y4.2.2),⟨(aV (gl aA y4.2.2) (rS aA)),SlS.mk  (⟨rfl,⟨rfl,mpK (Mds.set (enc:=aA) (Mds.self (enc:=aA)) (DEqs.refl _)) (slQ (rS aA) (k15))⟩⟩)⟩⟩)) (fun h9 k23=>⟨⟨rfl,fY k23.1 (by decide)⟩,wrapK.i64 k23.2 (fun h19 h20 k21=>⟨((y4.1+(1:Int)),eB y4.2.1 ((at_ a y4.1).1) ((at_ a y4.1).2),y4.2.2++([(at_ a y4.1).1])),⟨(aV (c9 (gl aA y4.2.2) y4.2.2.length (fun _=>[.str ((at_ a y4.1).1)])) (Rds.app (enc:=aA) (rS aA) (Rds.one (enc:=aA) (DEqs.refl _)))),SlS.mk  (⟨rfl,⟨rfl,mpK (Mds.set (enc:=aA) (Mds.self (enc:=aA)) (DEqs.refl _)) (slQ (Rds.app (enc:=aA) (rS aA) (Rds.one (enc:=aA) (DEqs.refl _))) (k21))⟩⟩)⟩⟩)⟩))) (fun h6 k59=>⟨rfl,⟨y4.2.2,⟨(aV (gl aA y4.2.2) (rS aA)),slQ (rS aA) (⟨k59.1,iF k59.2 (fun (h26:(List.length ((cF slt) (y4.2.2)))=y4.2.2.length) hk=>⟨h26,Exists.elim hk (fun I28 h54_=>Exists.elim h54_ (fun μ29 h54=>⟨I28,μ29,⟨([],((cF slt) (y4.2.2)),(List.length ((cF slt) (y4.2.2)):Int),(0:Int),y4.2.1),slQ (Rds.nil (enc:=aB)) (slQ (rS aA) (⟨rfl,⟨rfl,mpK (Mds.self (enc:=aA)) (⟨(aV eU (Rds.nil (enc:=aB))),h54.1⟩)⟩⟩))⟩,fun y30 h56=>br (h54.2 y30 h56) Cnd.dec (fun h31 k52=>chk k52.2.2 Cnd.ix ⟨k52.1,k52.2.1⟩ (fun h33 k50=>br k50 Cnd.b (fun h34 k48=>⟨⟨rfl,(fY k48.1 (by decide))⟩,wrapK.i64 k48.2 (fun h39 h40 k41=>⟨(y30.1++([(at_ y30.2.1 y30.2.2.2.1,mat y30.2.2.2.2 (at_ y30.2.1 y30.2.2.2.1))]),y30.2.1,y30.2.2.1,(y30.2.2.2.1+(1:Int)),y30.2.2.2.2),slQ (Rds.app (enc:=aB) (rS aB) (Rds.one (enc:=aB) (DEqs.refl _))) (slQ (rS aA) (⟨rfl,⟨rfl,mpK (Mds.self (enc:=aA)) (⟨(aV (c9 (gl aB y30.1) y30.1.length (fun _=>[.str (at_ y30.2.1 y30.2.2.2.1),.str (mat y30.2.2.2.2 (at_ y30.2.1 y30.2.2.2.1))])) (Rds.app (enc:=aB) (rS aB) (Rds.one (enc:=aB) (DEqs.refl _)))),k41⟩)⟩⟩))⟩)⟩) (fun h35 k49=>⟨⟨rfl,(fY k49.1 (by decide))⟩,wrapK.i64 k49.2 (fun h45 h46 k47=>⟨(y30.1++([(at_ y30.2.1 y30.2.2.2.1,ByteArray.empty)]),y30.2.1,y30.2.2.1,(y30.2.2.2.1+(1:Int)),y30.2.2.2.2),slQ (Rds.app (enc:=aB) (rS aB) (Rds.one (enc:=aB) (DEqs.refl _))) (slQ (rS aA) (⟨rfl,⟨rfl,mpK (Mds.self (enc:=aA)) (⟨(aV (c9 (gl aB y30.1) y30.1.length (fun _=>[.str (at_ y30.2.1 y30.2.2.2.1),.str ByteArray.empty])) (Rds.app (enc:=aB) (rS aB) (Rds.one (enc:=aB) (DEqs.refl _)))),k47⟩)⟩⟩))⟩)⟩))) (fun h32 k53=>⟨rfl,slQ (Rds.to (rS aB) k53) (trivial)⟩)⟩))⟩)⟩)⟩⟩⟩)⟩))
theorem f385.eq (a:List (aC)):(f385.af a).gives f385.env (f385.args a) (f385.blks a) (f385.res a) (f385.blks' a)=f385.tree a:=by kernel_rfl
def f386.ent (K:(List (aC))→Prop) (t:List (aC)):Prop:=∃ c:List (aC),SlQ t.length c.length (gl aB t) (gl aB c) (K c)
theorem f386.ei {K:(List (aC))→Prop} {t:List (aC)} (h:K t):f386.ent K t:=⟨t,slQ (rS aB) (h)⟩
def f386.args (a:List (aC)):List D:=[.slice .ro 2 a.length (gl aB a)]
def f386.blks (a:List (aC)):List (List D):=[]
def f386.res (a:List (aC)):List D:=[.slice .ro 2 ((aR a).length) (gl aB (aR a))]
def f386.blks' (a:List (aC)):List (List D):=[]
def f386.C:aK:=FnC f386.args f386.blks (fun a=>L20 a) f386.res f386.blks'
def f386.S0 (a:List (aC)) (x:(List (aC))×Int):Tm:=⟨[.slice .ro 2 a.length (gl aB a),.dead,.dead,.slice .ro 2 x.1.length (gl aB x.1),.dead,.dead,.dead,.dead,.dead,.int .i64 (a.length:Int),.int .i64 x.2,.dead,.dead,.dead,.dead,.dead,.dead,.dead,.dead,.dead,.dead,.dead,.dead,.dead,.dead,.dead,.dead,.dead,.dead,.dead,.dead,.dead,.dead,.dead,.dead,.dead,.dead,.dead,.dead,.dead,.dead,.dead,.dead,.dead,.dead,.dead,.dead,.dead,.dead,.dead,.dead,.dead,.dead,.dead,.dead,.dead,.dead,.dead,.dead,.dead,.dead,.dead,.dead,.dead,.dead,.dead,.dead,.dead,.dead,.dead,.dead],[],[]⟩
def f386.S1 (a:List (aC)) (x:(List (aC))×Int×(List (aC))×Bool×Int×Int×Int):Tm:=⟨[.slice .ro 2 a.length (gl aB a),.dead,.dead,.slice .ro 2 x.1.length (gl aB x.1),.int .i64 x.2.1,.slice (.own 8) 2 x.2.2.1.length (gl aB x.2.2.1),.bool x.2.2.2.1,.dead,.dead,.int .i64 (a.length:Int),.int .i64 x.2.2.2.2.1,.dead,.dead,.dead,.int .i64 x.2.2.2.2.2.1,.int .i64 x.2.2.2.2.2.2,.dead,.dead,.dead,.dead,.dead,.dead,.dead,.dead,.dead,.dead,.dead,.dead,.dead,.dead,.dead,.dead,.dead,.dead,.dead,.dead,.dead,.dead,.dead,.dead,.dead,.dead,.dead,.dead,.dead,.dead,.dead,.dead,.dead,.dead,.dead,.dead,.dead,.dead,.dead,.dead,.dead,.dead,.dead,.dead,.dead,.dead,.dead,.dead,.dead,.dead,.dead,.dead,.dead,.dead,.dead],[],[(8,2,x.2.2.1.length)]⟩
def f386.kills (a:List (aC)):List Hint:=[.tell ((List (aC))×Int) (f386.S0 a),
 .tell ((List (aC))×Int×(List (aC))×Bool×Int×Int×Int) (f386.S1 a)]
def f386.cuts (a:List (aC)):List (Nat×Σ β:Type,β→Tm):=[(100016,⟨(List (aC))×Int×(List (aC))×Bool×Int×Int×Int×Int,fun x=>⟨[.slice .ro 2 a.length (gl aB a),.dead,.dead,.slice .ro 2 x.1.length (gl aB x.1),.int .i64 x.2.1,.slice (.own 8) 2 x.2.2.1.length (gl aB x.2.2.1),.bool x.2.2.2.1,.int .i64 x.2.2.2.2.1,.dead,.int .i64 (a.length:Int),.int .i64 x.2.2.2.2.2.1,.dead,.dead,.dead,.int .i64 x.2.2.2.2.2.2.1,.int .i64 x.2.2.2.2.2.2.2,.dead,.dead,.dead,.dead,.dead,.dead,.dead,.dead,.dead,.dead,.dead,.dead,.dead,.dead,.dead,.dead,.dead,.dead,.dead,.dead,.dead,.dead,.dead,.dead,.dead,.dead,.dead,.dead,.dead,.dead,.dead,.dead,.dead,.dead,.dead,.dead,.dead,.dead,.dead,.dead,.dead,.dead,.dead,.dead,.dead,.dead,.dead,.dead,.dead,.dead,.dead,.dead,.dead,.dead,.dead],[],[(8,2,x.2.2.1.length)]⟩⟩),
 (100014,⟨(List (aC))×Int×(List (aC))×Bool×Int×Int×Int,fun x=>⟨[.slice .ro 2 a.length (gl aB a),.dead,.dead,.slice .ro 2 x.1.length (gl aB x.1),.int .i64 x.2.1,.slice (.own 8) 2 x.2.2.1.length (gl aB x.2.2.1),.bool x.2.2.2.1,.dead,.dead,.int .i64 (a.length:Int),.int .i64 x.2.2.2.2.1,.dead,.dead,.dead,.int .i64 x.2.2.2.2.2.1,.int .i64 x.2.2.2.2.2.2,.dead,.dead,.dead,.dead,.dead,.dead,.dead,.dead,.dead,.dead,.dead,.dead,.dead,.dead,.dead,.dead,.dead,.dead,.dead,.dead,.dead,.dead,.dead,.dead,.dead,.dead,.dead,.dead,.dead,.dead,.dead,.dead,.dead,.dead,.dead,.dead,.dead,.dead,.dead,.dead,.dead,.dead,.dead,.dead,.dead,.dead,.dead,.dead,.dead,.dead,.dead,.dead,.dead,.dead,.dead],[],[(8,2,x.2.2.1.length)]⟩⟩),
 (100020,⟨(List (aC))×Int,fun x=>⟨[.slice .ro 2 a.length (gl aB a),.dead,.dead,.dead,.dead,.slice (.own 8) 2 x.1.length (gl aB x.1),.dead,.dead,.dead,.int .i64 (a.length:Int),.int .i64 x.2,.dead,.dead,.dead,.dead,.dead,.dead,.dead,.dead,.dead,.dead,.dead,.dead,.dead,.dead,.dead,.dead,.dead,.dead,.dead,.dead,.dead,.dead,.dead,.dead,.dead,.dead,.dead,.dead,.dead,.dead,.dead,.dead,.dead,.dead,.dead,.dead,.dead,.dead,.dead,.dead,.dead,.dead,.dead,.dead,.dead,.dead,.dead,.dead,.dead,.dead,.dead,.dead,.dead,.dead,.dead,.dead,.dead,.dead,.dead,.dead],[],[(8,2,x.1.length)]⟩⟩)]
def f386.af (a:List (aC)):AF:=AF.mk (.seq (.region [oT 2 0 (.nilSl 2) []])
 (.seq (.region [oT 3 1 (.nilSl 2) []])
 (.seq (.seq (.region [mT 8 2 0,
 oT 9 3 (.len false) [8],
 ⟨(some 10),4,.move,[.c (.int .i64 (0))],none⟩])
 (.block 0 (.loopT ((List (aC))×Int) (f386.S0 a) 5 75 (.seq (.region [oT 11 5 (.bin .lss) [10,9]])
 (.seq (.cond (.t 11) (.skip) (.exit 0))
 (.seq (.block 1 (.seq (.region [mT 12 6 10,
 mT 4 7 12])
 (.seq (.region [oT 5 8 (.nilSl 2) []])
 (.seq (.region [⟨(some 6),9,.move,[.c (.bool false)],none⟩])
 (.seq (.seq (.region [mT 13 10 3,
 oT 14 11 (.len false) [13],
 ⟨(some 15),12,.move,[.c (.int .i64 (0))],none⟩])
 (.block 2 (.loopT ((List (aC))×Int×(List (aC))×Bool×Int×Int×Int) (f386.S1 a) 13 61 (.seq (.region [oT 16 13 (.bin .lss) [15,14]])
 (.seq (.cond (.t 16) (.skip) (.exit 2))
 (.joinT ((List (aC))×Int×(List (aC))×Bool×Int×Int×Int) (fun x=>⟨[.slice .ro 2 a.length (gl aB a),.dead,.dead,.slice .ro 2 x.1.length (gl aB x.1),.int .i64 x.2.1,.slice (.own 8) 2 x.2.2.1.length (gl aB x.2.2.1),.bool x.2.2.2.1,.dead,.dead,.int .i64 (a.length:Int),.int .i64 x.2.2.2.2.1,.dead,.dead,.dead,.int .i64 x.2.2.2.2.2.1,.int .i64 x.2.2.2.2.2.2,.dead,.dead,.dead,.dead,.dead,.dead,.dead,.dead,.dead,.dead,.dead,.dead,.dead,.dead,.dead,.dead,.dead,.dead,.dead,.dead,.dead,.dead,.dead,.dead,.dead,.dead,.dead,.dead,.dead,.dead,.dead,.dead,.dead,.dead,.dead,.dead,.dead,.dead,.dead,.dead,.dead,.dead,.dead,.dead,.dead,.dead,.dead,.dead,.dead,.dead,.dead,.dead,.dead,.dead,.dead],[],[(8,2,x.2.2.1.length)]⟩) (.block 3 (.seq (.region [mT 17 14 15,
 mT 7 15 17])
 (.joinT ((List (aC))×Int×(List (aC))×Bool×Int×Int×Int×Int) (fun x=>⟨[.slice .ro 2 a.length (gl aB a),.dead,.dead,.slice .ro 2 x.1.length (gl aB x.1),.int .i64 x.2.1,.slice (.own 8) 2 x.2.2.1.length (gl aB x.2.2.1),.bool x.2.2.2.1,.int .i64 x.2.2.2.2.1,.dead,.int .i64 (a.length:Int),.int .i64 x.2.2.2.2.2.1,.dead,.dead,.dead,.int .i64 x.2.2.2.2.2.2.1,.int .i64 x.2.2.2.2.2.2.2,.dead,.dead,.dead,.dead,.dead,.dead,.dead,.dead,.dead,.dead,.dead,.dead,.dead,.dead,.dead,.dead,.dead,.dead,.dead,.dead,.dead,.dead,.dead,.dead,.dead,.dead,.dead,.dead,.dead,.dead,.dead,.dead,.dead,.dead,.dead,.dead,.dead,.dead,.dead,.dead,.dead,.dead,.dead,.dead,.dead,.dead,.dead,.dead,.dead,.dead,.dead,.dead,.dead,.dead,.dead],[],[(8,2,x.2.2.1.length)]⟩) (.seq (.region [mT 18 16 6,
 oT 19 17 (.un .not) [18],
 mT 20 18 19,
 oG 21 19 .move [3] 20 true,
 oG 22 20 .move [7] 20 true,
 oG 23 21 (.indexAddr 2 none) [21,22] 20 true,
 oG 24 22 (.fieldAddr 0) [23] 20 true,
 oG 25 23 (.load false 1) [24] 20 true,
 oG 26 24 .move [0] 20 true,
 oG 27 25 .move [4] 20 true,
 oG 28 26 (.indexAddr 2 none) [26,27] 20 true,
 oG 29 27 (.fieldAddr 0) [28] 20 true,
 oG 30 28 (.load false 1) [29] 20 true,
 oG 31 29 (.bin .geq) [25,30] 20 true,
 ⟨(some 32),30,.pick,[.t 20,.t 31,.c (.bool false)],none⟩])
 (.cond (.t 32) (.seq (.region [mT 33 31 5,
 mT 34 32 0,
 mT 35 33 4,
 oT 36 34 (.indexAddr 2 none) [34,35],
 oT 37 35 (.load true 2) [36],
 oT 38 36 (.buildSlice 2 1 [.str ByteArray.empty,.str ByteArray.empty] [(0,2)]) [37],
 oT 39 37 (.append 2 32) [33,38],
 mT 5 38 39])
 (.region [⟨(some 6),39,.move,[.c (.bool true)],none⟩])) (.skip)))
 (.seq (.region [mT 40 40 3,
 mT 41 41 7,
 oT 42 42 (.indexAddr 2 none) [40,41],
 oT 43 43 (.fieldAddr 0) [42],
 oT 44 44 (.load false 1) [43],
 mT 45 45 0,
 mT 46 46 4,
 oT 47 47 (.indexAddr 2 none) [45,46],
 oT 48 48 (.fieldAddr 0) [47],
 oT 49 49 (.load false 1) [48],
 oT 50 50 (.bin .neq) [44,49]])
 (.cond (.t 50) (.region [mT 51 51 5,
 mT 52 52 3,
 mT 53 53 7,
 oT 54 54 (.indexAddr 2 none) [52,53],
 oT 55 55 (.load true 2) [54],
 oT 56 56 (.buildSlice 2 1 [.str ByteArray.empty,.str ByteArray.empty] [(0,2)]) [55],
 oT 57 57 (.append 2 32) [51,56],
 mT 5 58 57]) (.skip))))))
 (.region [⟨(some 58),59,(.bin .add),[.t 15,.c (.int .i64 (1))],none⟩,
 mT 15 60 58])))))))
 (.joinT ((List (aC))×Int) (fun x=>⟨[.slice .ro 2 a.length (gl aB a),.dead,.dead,.dead,.dead,.slice (.own 8) 2 x.1.length (gl aB x.1),.dead,.dead,.dead,.int .i64 (a.length:Int),.int .i64 x.2,.dead,.dead,.dead,.dead,.dead,.dead,.dead,.dead,.dead,.dead,.dead,.dead,.dead,.dead,.dead,.dead,.dead,.dead,.dead,.dead,.dead,.dead,.dead,.dead,.dead,.dead,.dead,.dead,.dead,.dead,.dead,.dead,.dead,.dead,.dead,.dead,.dead,.dead,.dead,.dead,.dead,.dead,.dead,.dead,.dead,.dead,.dead,.dead,.dead,.dead,.dead,.dead,.dead,.dead,.dead,.dead,.dead,.dead,.dead,.dead],[],[(8,2,x.1.length)]⟩) (.seq (.region [mT 59 61 6,
 oT 60 62 (.un .not) [59]])
 (.cond (.t 60) (.region [mT 61 63 5,
 mT 62 64 0,
 mT 63 65 4,
 oT 64 66 (.indexAddr 2 none) [62,63],
 oT 65 67 (.load true 2) [64],
 oT 66 68 (.buildSlice 2 1 [.str ByteArray.empty,.str ByteArray.empty] [(0,2)]) [65],
 oT 67 69 (.append 2 32) [61,66],
 mT 5 70 67]) (.skip)))
 (.region [mT 68 71 5,
 mT 3 72 68])))))))
 (.region [⟨(some 69),73,(.bin .add),[.t 10,.c (.int .i64 (1))],none⟩,
 mT 10 74 69])))))))
 (.seq (.region [mT 70 75 3,
 mT 2 76 70])
 (.ret)))))
 [.tmp 2] 0 70
def f386.env:Env:=[]
def f386.tree (a:List (aC)):Prop:=∃ (I2:((List (aC))×Int)→Prop) (μ3:((List (aC))×Int)→Nat),(∃ x1:(List (aC))×Int,SlS aB a (SlQ 0 x1.1.length eU (gl aB x1.1) (((a.length:Int)=(a.length:Int))∧((0:Int)=x1.2)∧I2 x1)))∧∀ y4:(List (aC))×Int,I2 y4→(Br (decide (y4.2 < (a.length:Int))) (∃ (I8:((List (aC))×Int×(List (aC))×Bool×Int×Int×Int)→Prop) (μ9:((List (aC))×Int×(List (aC))×Bool×Int×Int×Int)→Nat),(∃ x7:(List (aC))×Int×(List (aC))×Bool×Int×Int×Int,SlS aB a (SlQ y4.1.length x7.1.length (gl aB y4.1) (gl aB x7.1) ((y4.2=x7.2.1)∧SlQ 0 x7.2.2.1.length eU (gl aB x7.2.2.1) ((false=x7.2.2.2.1)∧((a.length:Int)=(a.length:Int))∧(y4.2=x7.2.2.2.2.1)∧((y4.1.length:Int)=x7.2.2.2.2.2.1)∧((0:Int)=x7.2.2.2.2.2.2)∧(0=x7.2.2.1.length)∧I8 x7))))∧∀ y10:(List (aC))×Int×(List (aC))×Bool×Int×Int×Int,I8 y10→(Br (decide (y10.2.2.2.2.2.2 < y10.2.2.2.2.2.1)) (∃ I13:((List (aC))×Int×(List (aC))×Bool×Int×Int×Int)→Prop,(∃ I14:((List (aC))×Int×(List (aC))×Bool×Int×Int×Int×Int)→Prop,(Br (!y10.2.2.2.1) (Br (decide ((0:Int)≤y10.2.2.2.2.2.2)&&decide (y10.2.2.2.2.2.2 < (y10.1.length:Int))) (Br (decide ((0:Int)≤y10.2.1)&&decide (y10.2.1 < (a.length:Int))) (Br (!(Op.bytesLess ((at_ y10.1 y10.2.2.2.2.2.2).1).toList ((at_ a y10.2.1).1).toList)) (Br (decide ((0:Int)≤y10.2.1)&&decide (y10.2.1 < (a.length:Int))) ((y10.2.2.1.length=y10.2.2.1.length∧kR ((y10.2.2.1.length+1) * 32))∧(∃ x22:(List (aC))×Int×(List (aC))×Bool×Int×Int×Int×Int,SlS aB a (SlQ y10.1.length x22.1.length (gl aB y10.1) (gl aB x22.1) ((y10.2.1=x22.2.1)∧SlQ (y10.2.2.1.length+1) x22.2.2.1.length (c9 (gl aB y10.2.2.1) y10.2.2.1.length (fun _=>[.str ((at_ a y10.2.1).1),.str ((at_ a y10.2.1).2)])) (gl aB x22.2.2.1) ((true=x22.2.2.2.1)∧(y10.2.2.2.2.2.2=x22.2.2.2.2.1)∧((a.length:Int)=(a.length:Int))∧(y10.2.2.2.2.1=x22.2.2.2.2.2.1)∧(y10.2.2.2.2.2.1=x22.2.2.2.2.2.2.1)∧(y10.2.2.2.2.2.2=x22.2.2.2.2.2.2.2)∧((y10.2.2.1.length+1)=x22.2.2.1.length)∧I14 x22))))) False) (∃ x24:(List (aC))×Int×(List (aC))×Bool×Int×Int×Int×Int,SlS aB a (SlQ y10.1.length x24.1.length (gl aB y10.1) (gl aB x24.1) ((y10.2.1=x24.2.1)∧SlQ y10.2.2.1.length x24.2.2.1.length (gl aB y10.2.2.1) (gl aB x24.2.2.1) ((y10.2.2.2.1=x24.2.2.2.1)∧(y10.2.2.2.2.2.2=x24.2.2.2.2.1)∧((a.length:Int)=(a.length:Int))∧(y10.2.2.2.2.1=x24.2.2.2.2.2.1)∧(y10.2.2.2.2.2.1=x24.2.2.2.2.2.2.1)∧(y10.2.2.2.2.2.2=x24.2.2.2.2.2.2.2)∧(y10.2.2.1.length=x24.2.2.1.length)∧I14 x24))))) False) False) (∃ x29:(List (aC))×Int×(List (aC))×Bool×Int×Int×Int×Int,SlS aB a (SlQ y10.1.length x29.1.length (gl aB y10.1) (gl aB x29.1) ((y10.2.1=x29.2.1)∧SlQ y10.2.2.1.length x29.2.2.1.length (gl aB y10.2.2.1) (gl aB x29.2.2.1) ((y10.2.2.2.1=x29.2.2.2.1)∧(y10.2.2.2.2.2.2=x29.2.2.2.2.1)∧((a.length:Int)=(a.length:Int))∧(y10.2.2.2.2.1=x29.2.2.2.2.2.1)∧(y10.2.2.2.2.2.1=x29.2.2.2.2.2.2.1)∧(y10.2.2.2.2.2.2=x29.2.2.2.2.2.2.2)∧(y10.2.2.1.length=x29.2.2.1.length)∧I14 x29)))))∧∀ y32:(List (aC))×Int×(List (aC))×Bool×Int×Int×Int×Int,I14 y32→(Br (decide ((0:Int)≤y32.2.2.2.2.1)&&decide (y32.2.2.2.2.1 < (y32.1.length:Int))) (Br (decide ((0:Int)≤y32.2.1)&&decide (y32.2.1 < (a.length:Int))) (Br (!(((at_ y32.1 y32.2.2.2.2.1).1).toList==((at_ a y32.2.1).1).toList)) (Br (decide ((0:Int)≤y32.2.2.2.2.1)&&decide (y32.2.2.2.2.1 < (y32.1.length:Int))) ((y32.2.2.1.length=y32.2.2.1.length∧kR ((y32.2.2.1.length+1) * 32))∧(∃ x40:(List (aC))×Int×(List (aC))×Bool×Int×Int×Int,SlS aB a (SlQ y32.1.length x40.1.length (gl aB y32.1) (gl aB x40.1) ((y32.2.1=x40.2.1)∧SlQ (y32.2.2.1.length+1) x40.2.2.1.length (c9 (gl aB y32.2.2.1) y32.2.2.1.length (fun _=>[.str ((at_ y32.1 y32.2.2.2.2.1).1),.str ((at_ y32.1 y32.2.2.2.2.1).2)])) (gl aB x40.2.2.1) ((y32.2.2.2.1=x40.2.2.2.1)∧((a.length:Int)=(a.length:Int))∧(y32.2.2.2.2.2.1=x40.2.2.2.2.1)∧(y32.2.2.2.2.2.2.1=x40.2.2.2.2.2.1)∧(y32.2.2.2.2.2.2.2=x40.2.2.2.2.2.2)∧((y32.2.2.1.length+1)=x40.2.2.1.length)∧I13 x40))))) False) (∃ x42:(List (aC))×Int×(List (aC))×Bool×Int×Int×Int,SlS aB a (SlQ y32.1.length x42.1.length (gl aB y32.1) (gl aB x42.1) ((y32.2.1=x42.2.1)∧SlQ y32.2.2.1.length x42.2.2.1.length (gl aB y32.2.2.1) (gl aB x42.2.2.1) ((y32.2.2.2.1=x42.2.2.2.1)∧((a.length:Int)=(a.length:Int))∧(y32.2.2.2.2.2.1=x42.2.2.2.2.1)∧(y32.2.2.2.2.2.2.1=x42.2.2.2.2.2.1)∧(y32.2.2.2.2.2.2.2=x42.2.2.2.2.2.2)∧(y32.2.2.1.length=x42.2.2.1.length)∧I13 x42))))) False) False))∧∀ y47:(List (aC))×Int×(List (aC))×Bool×Int×Int×Int,I13 y47→(Let (wI (y47.2.2.2.2.2.2+(1:Int))) (fun v50:Int=>∃ x51:(List (aC))×Int×(List (aC))×Bool×Int×Int×Int,SlS aB a (SlQ y47.1.length x51.1.length (gl aB y47.1) (gl aB x51.1) ((y47.2.1=x51.2.1)∧SlQ y47.2.2.1.length x51.2.2.1.length (gl aB y47.2.2.1) (gl aB x51.2.2.1) ((y47.2.2.2.1=x51.2.2.2.1)∧((a.length:Int)=(a.length:Int))∧(y47.2.2.2.2.1=x51.2.2.2.2.1)∧(y47.2.2.2.2.2.1=x51.2.2.2.2.2.1)∧(v50=x51.2.2.2.2.2.2)∧(y47.2.2.1.length=x51.2.2.1.length)∧I8 x51∧μ9 x51 < μ9 y10)))))) (∃ I56:((List (aC))×Int)→Prop,(Br (!y10.2.2.2.1) (Br (decide ((0:Int)≤y10.2.1)&&decide (y10.2.1 < (a.length:Int))) ((y10.2.2.1.length=y10.2.2.1.length∧kR ((y10.2.2.1.length+1) * 32))∧(∃ x60:(List (aC))×Int,SlS aB a (SlQ (y10.2.2.1.length+1) x60.1.length (c9 (gl aB y10.2.2.1) y10.2.2.1.length (fun _=>[.str ((at_ a y10.2.1).1),.str ((at_ a y10.2.1).2)])) (gl aB x60.1) (((a.length:Int)=(a.length:Int))∧(y10.2.2.2.2.1=x60.2)∧((y10.2.2.1.length+1)=x60.1.length)∧I56 x60)))) False) (∃ x62:(List (aC))×Int,SlS aB a (SlQ y10.2.2.1.length x62.1.length (gl aB y10.2.2.1) (gl aB x62.1) (((a.length:Int)=(a.length:Int))∧(y10.2.2.2.2.1=x62.2)∧(y10.2.2.1.length=x62.1.length)∧I56 x62))))∧∀ y65:(List (aC))×Int,I56 y65→(Let (wI (y65.2+(1:Int))) (fun v68:Int=>∃ x69:(List (aC))×Int,SlS aB a (SlQ y65.1.length x69.1.length (gl aB y65.1) (gl aB x69.1) (((a.length:Int)=(a.length:Int))∧(v68=x69.2)∧I2 x69∧μ3 x69 < μ3 y4))))))) (SlQ y4.1.length ((aR a).length) (gl aB y4.1) (gl aB (aR a)) (True)))
def f386.vc (a:List (aC)):Prop:=(∃ (I2:((List (aC))×Int)→Prop) (μ3:((List (aC))×Int)→Nat),I2 ([],(0:Int))∧∀ y4:(List (aC))×Int,I2 y4→((y4.2 < (a.length:Int)→(∃ (I8:((List (aC))×Int×(List (aC))×Bool×Int×Int×Int)→Prop) (μ9:((List (aC))×Int×(List (aC))×Bool×Int×Int×Int)→Nat),I8 (y4.1,y4.2,[],false,y4.2,(y4.1.length:Int),(0:Int))∧∀ y10:(List (aC))×Int×(List (aC))×Bool×Int×Int×Int,I8 y10→((y10.2.2.2.2.2.2 < y10.2.2.2.2.2.1→(∃ I13:((List (aC))×Int×(List (aC))×Bool×Int×Int×Int)→Prop,((∃ I14:((List (aC))×Int×(List (aC))×Bool×Int×Int×Int×Int)→Prop,(((¬(y10.2.2.2.1=true)→((0:Int)≤y10.2.2.2.2.2.2∧y10.2.2.2.2.2.2 < (y10.1.length:Int)∧((0:Int)≤y10.2.1∧y10.2.1 < (a.length:Int)∧((¬sLt ((at_ y10.1 y10.2.2.2.2.2.2).1) ((at_ a y10.2.1).1)→((0:Int)≤y10.2.1∧y10.2.1 < (a.length:Int)∧(y10.2.2.1.length+1≤1073741824∧(I14 (y10.1,y10.2.1,y10.2.2.1++([(at_ a y10.2.1)]),true,y10.2.2.2.2.2.2,y10.2.2.2.2.1,y10.2.2.2.2.2.1,y10.2.2.2.2.2.2)))))∧(¬(¬sLt ((at_ y10.1 y10.2.2.2.2.2.2).1) ((at_ a y10.2.1).1))→(I14 (y10.1,y10.2.1,y10.2.2.1,y10.2.2.2.1,y10.2.2.2.2.2.2,y10.2.2.2.2.1,y10.2.2.2.2.2.1,y10.2.2.2.2.2.2)))))))∧(¬(¬(y10.2.2.2.1=true))→(I14 (y10.1,y10.2.1,y10.2.2.1,y10.2.2.2.1,y10.2.2.2.2.2.2,y10.2.2.2.2.1,y10.2.2.2.2.2.1,y10.2.2.2.2.2.2)))))∧∀ y32:(List (aC))×Int×(List (aC))×Bool×Int×Int×Int×Int,I14 y32→((0:Int)≤y32.2.2.2.2.1∧y32.2.2.2.2.1 < (y32.1.length:Int)∧((0:Int)≤y32.2.1∧y32.2.1 < (a.length:Int)∧((¬(((at_ y32.1 y32.2.2.2.2.1).1)=((at_ a y32.2.1).1))→((0:Int)≤y32.2.2.2.2.1∧y32.2.2.2.2.1 < (y32.1.length:Int)∧(y32.2.2.1.length+1≤1073741824∧(I13 (y32.1,y32.2.1,y32.2.2.1++([(at_ y32.1 y32.2.2.2.2.1)]),y32.2.2.2.1,y32.2.2.2.2.2.1,y32.2.2.2.2.2.2.1,y32.2.2.2.2.2.2.2)))))∧(¬(¬(((at_ y32.1 y32.2.2.2.2.1).1)=((at_ a y32.2.1).1)))→(I13 (y32.1,y32.2.1,y32.2.2.1,y32.2.2.2.1,y32.2.2.2.2.2.1,y32.2.2.2.2.2.2.1,y32.2.2.2.2.2.2.2))))))))∧∀ y47:(List (aC))×Int×(List (aC))×Bool×Int×Int×Int,I13 y47→(-9223372036854775808≤(y47.2.2.2.2.2.2+(1:Int))∧(y47.2.2.2.2.2.2+(1:Int))≤9223372036854775807∧(I8 (y47.1,y47.2.1,y47.2.2.1,y47.2.2.2.1,y47.2.2.2.2.1,y47.2.2.2.2.2.1,(y47.2.2.2.2.2.2+(1:Int)))∧μ9 (y47.1,y47.2.1,y47.2.2.1,y47.2.2.2.1,y47.2.2.2.2.1,y47.2.2.2.2.2.1,(y47.2.2.2.2.2.2+(1:Int))) < μ9 y10))))∧(¬(y10.2.2.2.2.2.2 < y10.2.2.2.2.2.1)→(∃ I56:((List (aC))×Int)→Prop,(((¬(y10.2.2.2.1=true)→((0:Int)≤y10.2.1∧y10.2.1 < (a.length:Int)∧(y10.2.2.1.length+1≤1073741824∧(I56 (y10.2.2.1++([(at_ a y10.2.1)]),y10.2.2.2.2.1)))))∧(¬(¬(y10.2.2.2.1=true))→(I56 (y10.2.2.1,y10.2.2.2.2.1)))))∧∀ y65:(List (aC))×Int,I56 y65→(-9223372036854775808≤(y65.2+(1:Int))∧(y65.2+(1:Int))≤9223372036854775807∧(I2 (y65.1,(y65.2+(1:Int)))∧μ3 (y65.1,(y65.2+(1:Int))) < μ3 y4)))))))∧(¬(y4.2 < (a.length:Int))→(y4.1=aR a))))
theorem f386.of (a:List (aC)) (h:f386.vc a):f386.tree a:=Exists.elim h (fun I2 h82_=>Exists.elim h82_ (fun μ3 h82=>⟨I2,μ3,⟨([],(0:Int)),SlS.mk  (slQ (Rds.nil (enc:=aB)) (⟨rfl,⟨rfl,h82.1⟩⟩))⟩,fun y4 h84=>br (h82.2 y4 h84) Cnd.dec (fun h5 k80=>Exists.elim k80 (fun I8 h76_=>Exists.elim h76_ (fun μ9 h76=>⟨I8,μ9,⟨(y4.1,y4.2,[],false,y4.2,(y4.1.length:Int),(0:Int)),SlS.mk  (slQ (rS aB) (⟨rfl,slQ (Rds.nil (enc:=aB)) (⟨rfl,⟨rfl,⟨rfl,⟨rfl,⟨rfl,⟨(aV eU (Rds.nil (enc:=aB))),h76.1⟩⟩⟩⟩⟩⟩)⟩))⟩,fun y10 h78=>br (h76.2 y10 h78) Cnd.dec (fun h11 k74=>Exists.elim k74 (fun I13 h49=>⟨I13,Exists.elim h49.1 (fun I14 h34=>⟨I14,br h34.1 (Cnd.not Cnd.b) (fun h15 k30=>chk k30.2.2 Cnd.ix ⟨k30.1,k30.2.1⟩ (fun h17 k28=>chk k28.2.2 Cnd.ix ⟨k28.1,k28.2.1⟩ (fun h18 k27=>br k27 (Cnd.not Cnd.sl_) (fun h19 k25=>chk k25.2.2 Cnd.ix ⟨k25.1,k25.2.1⟩ (fun h21 k23=>⟨⟨rfl,(fY k23.1 (by decide))⟩,⟨(y10.1,y10.2.1,y10.2.2.1++([(at_ a y10.2.1)]),true,y10.2.2.2.2.2.2,y10.2.2.2.2.1,y10.2.2.2.2.2.1,y10.2.2.2.2.2.2),SlS.mk  (slQ (rS aB) (⟨rfl,slQ (Rds.app (enc:=aB) (rS aB) (Rds.one (enc:=aB) (DEqs.refl _))) (⟨rfl,⟨rfl,⟨rfl,⟨rfl,⟨rfl,⟨rfl,⟨(aV (c9 (gl aB y10.2.2.1) y10.2.2.1.length (fun _=>[.str ((at_ a y10.2.1).1),.str ((at_ a y10.2.1).2)])) (Rds.app (enc:=aB) (rS aB) (Rds.one (enc:=aB) (DEqs.refl _)))),k23.2⟩⟩⟩⟩⟩⟩⟩)⟩))⟩⟩)) (fun h20 k26=>⟨(y10.1,y10.2.1,y10.2.2.1,y10.2.2.2.1,y10.2.2.2.2.2.2,y10.2.2.2.2.1,y10.2.2.2.2.2.1,y10.2.2.2.2.2.2),SlS.mk  (slQ (rS aB) (⟨rfl,slQ (rS aB) (⟨rfl,⟨rfl,⟨rfl,⟨rfl,⟨rfl,⟨rfl,⟨(aV (gl aB y10.2.2.1) (rS aB)),k26⟩⟩⟩⟩⟩⟩⟩)⟩))⟩)))) (fun h16 k31=>⟨(y10.1,y10.2.1,y10.2.2.1,y10.2.2.2.1,y10.2.2.2.2.2.2,y10.2.2.2.2.1,y10.2.2.2.2.2.1,y10.2.2.2.2.2.2),SlS.mk  (slQ (rS aB) (⟨rfl,slQ (rS aB) (⟨rfl,⟨rfl,⟨rfl,⟨rfl,⟨rfl,⟨rfl,⟨(aV (gl aB y10.2.2.1) (rS aB)),k31⟩⟩⟩⟩⟩⟩⟩)⟩))⟩),fun y32 h33=>chk (h34.2 y32 h33).2.2 Cnd.ix ⟨(h34.2 y32 h33).1,(h34.2 y32 h33).2.1⟩ (fun h35 k46=>chk k46.2.2 Cnd.ix ⟨k46.1,k46.2.1⟩ (fun h36 k45=>br k45 (Cnd.not Cnd.seq) (fun h37 k43=>chk k43.2.2 Cnd.ix ⟨k43.1,k43.2.1⟩ (fun h39 k41=>⟨⟨rfl,(fY k41.1 (by decide))⟩,⟨(y32.1,y32.2.1,y32.2.2.1++([(at_ y32.1 y32.2.2.2.2.1)]),y32.2.2.2.1,y32.2.2.2.2.2.1,y32.2.2.2.2.2.2.1,y32.2.2.2.2.2.2.2),SlS.mk  (slQ (rS aB) (⟨rfl,slQ (Rds.app (enc:=aB) (rS aB) (Rds.one (enc:=aB) (DEqs.refl _))) (⟨rfl,⟨rfl,⟨rfl,⟨rfl,⟨rfl,⟨(aV (c9 (gl aB y32.2.2.1) y32.2.2.1.length (fun _=>[.str ((at_ y32.1 y32.2.2.2.2.1).1),.str ((at_ y32.1 y32.2.2.2.2.1).2)])) (Rds.app (enc:=aB) (rS aB) (Rds.one (enc:=aB) (DEqs.refl _)))),k41.2⟩⟩⟩⟩⟩⟩)⟩))⟩⟩)) (fun h38 k44=>⟨(y32.1,y32.2.1,y32.2.2.1,y32.2.2.2.1,y32.2.2.2.2.2.1,y32.2.2.2.2.2.2.1,y32.2.2.2.2.2.2.2),SlS.mk  (slQ (rS aB) (⟨rfl,slQ (rS aB) (⟨rfl,⟨rfl,⟨rfl,⟨rfl,⟨rfl,⟨(aV (gl aB y32.2.2.1) (rS aB)),k44⟩⟩⟩⟩⟩⟩)⟩))⟩)))⟩),fun y47 h48=>wrapK.i64 (h49.2 y47 h48) (fun h53 h54 k55=>⟨(y47.1,y47.2.1,y47.2.2.1,y47.2.2.2.1,y47.2.2.2.2.1,y47.2.2.2.2.2.1,(y47.2.2.2.2.2.2+(1:Int))),SlS.mk  (slQ (rS aB) (⟨rfl,slQ (rS aB) (⟨rfl,⟨rfl,⟨rfl,⟨rfl,⟨rfl,⟨(aV (gl aB y47.2.2.1) (rS aB)),k55⟩⟩⟩⟩⟩⟩)⟩))⟩)⟩)) (fun h12 k75=>Exists.elim k75 (fun I56 h67=>⟨I56,br h67.1 (Cnd.not Cnd.b) (fun h57 k63=>chk k63.2.2 Cnd.ix ⟨k63.1,k63.2.1⟩ (fun h59 k61=>⟨⟨rfl,(fY k61.1 (by decide))⟩,⟨(y10.2.2.1++([(at_ a y10.2.1)]),y10.2.2.2.2.1),SlS.mk  (slQ (Rds.app (enc:=aB) (rS aB) (Rds.one (enc:=aB) (DEqs.refl _))) (⟨rfl,⟨rfl,⟨(aV (c9 (gl aB y10.2.2.1) y10.2.2.1.length (fun _=>[.str ((at_ a y10.2.1).1),.str ((at_ a y10.2.1).2)])) (Rds.app (enc:=aB) (rS aB) (Rds.one (enc:=aB) (DEqs.refl _)))),k61.2⟩⟩⟩))⟩⟩)) (fun h58 k64=>⟨(y10.2.2.1,y10.2.2.2.2.1),SlS.mk  (slQ (rS aB) (⟨rfl,⟨rfl,⟨(aV (gl aB y10.2.2.1) (rS aB)),k64⟩⟩⟩))⟩),fun y65 h66=>wrapK.i64 (h67.2 y65 h66) (fun h71 h72 k73=>⟨(y65.1,(y65.2+(1:Int))),SlS.mk  (slQ (rS aB) (⟨rfl,⟨rfl,k73⟩⟩))⟩)⟩))⟩))) (fun h6 k81=>slQ (Rds.to (rS aB) k81) (trivial))⟩))
theorem f386.eq (a:List (aC)):(f386.af a).gives f386.env (f386.args a) (f386.blks a) (f386.res a) (f386.blks' a)=f386.tree a:=by kernel_rfl
theorem f217.ok (a:ByteArray×ByteArray) (_:True):f217.vc a:=⟨fun c=>(by cases c),fun _=>rfl⟩
theorem sP {l:List bK}:oQ l=true↔l.length≤300∧∀ i,i < l.length→(l.getD i default).1.size+(l.getD i default).2.size≤1000:=by
 unfold oQ
 simp only [Bool.and_eq_true,decide_eq_true_eq,List.all_eq_true,List.mem_range]
theorem sH {l:List bK} (h:¬oQ l=true):false=oQ l:=(Bool.eq_false_iff.2 h).symm
theorem f384.ok (a:List bK) (h:lZ a):f384.vc a:=by
 refine ⟨fun c=>sH fun hh=>by have:=(sP.1 hh).1; omega,fun c=>?_⟩
 refine ⟨fun y=>0≤y∧y≤(a.length:Int)∧(∀ i,i < y.toNat→(a.getD i default).1.size+(a.getD i default).2.size≤1000),fun y=>a.length - y.toNat,⟨by omega,by omega,fun i hi=>by simp at hi⟩,fun y hy=>?_⟩
 obtain ⟨g0,g1,g2⟩:=hy
 refine ⟨fun hlt=>?_,fun hge=>?_⟩
 ·have n1:=h.2 _ (yQ g0 hlt)
  refine ⟨g0,hlt,g0,hlt,by omega,by omega,fun d=>sH fun hh=>?_,fun d=>⟨by omega,by omega,⟨by omega,by omega,fun i hi=>?_⟩,by simp only; omega⟩⟩
  ·have:=(sP.1 hh).2 y.toNat (by omega)
   rw [← oS] at this
   omega
  ·by_cases he:i=y.toNat
   ·subst he
    rw [← oS]
    omega
   ·exact g2 i (by omega)
 ·symm
  rw [sP]
  exact ⟨by omega,fun i hi=>g2 i (by omega)⟩
theorem jI (l:List ByteArray):cF slt l=jO slt l:=aFO slt aAU aIL l
theorem m4 (l:List ByteArray):(cF slt l).length=l.length:=by rw [jI,pR]
theorem f385.ok (a:List bK) (h:L20 a):f385.vc a:=by
 have h:a.length≤1048576:=h
 refine ⟨fun y=>0≤y.1∧y.1≤(a.length:Int)∧y.2.1=c6 (a.take y.1.toNat)∧y.2.2=y.2.1.map Prod.fst,fun y=>a.length - y.1.toNat,⟨by simp only; omega,by simp only; omega,rfl,rfl⟩,fun y hy=>?_⟩
 obtain ⟨i,m,keys⟩:=y
 obtain ⟨g0,g1,g2,g3⟩:=hy
 simp only at g0 g1 g2 g3 ⊢
 subst g3
 refine ⟨fun hlt=>?_,fun hge=>?_⟩
 ·have st:eB m (at_ a i).1 (at_ a i).2=c6 (a.take (i+1).toNat):=by
   rw [show (i+1).toNat=i.toNat+1 from by omega,hO (by omega),iA,← g2]
   rfl
  have hl:=mW (a.take i.toNat)
  rw [← g2,List.length_take] at hl
  refine ⟨g0,hlt,fun c=>⟨by omega,by omega,⟨by omega,by omega,st,?_⟩,by omega⟩,fun c=>⟨?_,by omega,by omega,⟨by omega,by omega,st,?_⟩,by omega⟩⟩
  ·rw [fO,if_pos c]
  ·rw [List.length_map]
   omega
  ·rw [fO,if_neg c]
 ·have e:a.take i.toNat=a:=List.take_of_length_le (by omega)
  rw [e] at g2
  subst g2
  have hl:=mW a
  refine ⟨?_,m4 _,?_⟩
  ·unfold gC
   rw [List.length_map]
   omega
  ·have hS:(cF slt ((c6 a).map Prod.fst)).length=(c6 a).length:=by rw [m4,List.length_map]
   have hin:∀ x∈cF slt ((c6 a).map Prod.fst),fR (c6 a) x=true:=fun x hx=>by
    rw [jI,jJ kI] at hx
    exact (lN _ _).2 hx
   have hK:=rK a
   rw [← jI] at hK
   generalize cF slt ((c6 a).map Prod.fst)=S at hS hin hK ⊢
   refine ⟨fun y=>y.2.1=S∧y.2.2.1=(S.length:Int)∧0≤y.2.2.2.1∧y.2.2.2.1≤(S.length:Int)∧y.2.2.2.2=c6 a∧y.1=(S.take y.2.2.2.1.toNat).map fun k=>(k,mat (c6 a) k),fun y=>S.length - y.2.2.2.1.toNat,⟨rfl,rfl,by simp only; omega,by simp only; omega,rfl,rfl⟩,fun y hy=>?_⟩
   obtain ⟨out,ks,n,j,m⟩:=y
   obtain ⟨e1,e2,e3,e4,e5,e6⟩:=hy
   simp only at e1 e2 e3 e4 e5 e6 ⊢
   subst e1; subst e2; subst e5
   refine ⟨fun hlt=>⟨e3,hlt,fun c=>⟨?_,by omega,by omega,⟨rfl,rfl,by omega,by omega,rfl,?_⟩,by omega⟩,fun c=>absurd (hin _ (yQ e3 hlt)) c⟩,fun hge=>?_⟩
   ·rw [e6,List.length_map,List.length_take]
    omega
   ·rw [show (j+1).toNat=j.toNat+1 from by omega,hO (by omega),List.map_append,← e6]
    rfl
   ·rw [e6,List.take_of_length_le (by omega)]
    exact hK
theorem f386.ok (a:List bK) (h:L20 a):f386.vc a:=by
 have h:a.length≤1048576:=h
 refine ⟨fun y=>0≤y.2∧y.2≤(a.length:Int)∧y.1=aR (a.take y.2.toNat),fun y=>a.length - y.2.toNat,⟨by simp only; omega,by simp only; omega,rfl⟩,fun y hy=>?_⟩
 obtain ⟨S,i⟩:=y
 obtain ⟨g0,g1,g2⟩:=hy
 simp only at g0 g1 g2 ⊢
 refine ⟨fun hlt=>?_,fun hge=>?_⟩
 ·have sk:SK S:=g2 ▸ n7 _
  have hS:S.length≤a.length:=by
   rw [g2]
   exact Nat.le_trans (lL _) (by rw [List.length_take]; omega)
  have st:gH (at_ a i) S=aR (a.take (i+1).toNat):=by
   rw [show (i+1).toNat=i.toNat+1 from by omega,hO (by omega),gZ,← g2]
   rfl
  clear g2
  generalize hx:at_ a i=x at st
  refine ⟨fun y=>y.1=S∧y.2.1=i∧y.2.2.2.2.1=i∧y.2.2.2.2.2.1=(S.length:Int)∧0≤y.2.2.2.2.2.2∧y.2.2.2.2.2.2≤(S.length:Int) ∧
    (¬y.2.2.2.1=true→y.2.2.1=S.take y.2.2.2.2.2.2.toNat∧∀ z∈S.take y.2.2.2.2.2.2.toNat,slt z.1 x.1=true) ∧
    (y.2.2.2.1=true→y.2.2.1=gH x (S.take y.2.2.2.2.2.2.toNat)∧∃ z∈S.take y.2.2.2.2.2.2.toNat,¬slt z.1 x.1=true),fun y=>S.length - y.2.2.2.2.2.2.toNat,
   ⟨rfl,rfl,rfl,rfl,by simp only; omega,by simp only; omega,fun _=>⟨rfl,fun z hz=>(by cases hz)⟩,fun c=>(by cases c)⟩,fun y hy=>?_⟩
  obtain ⟨S',i',next,done,i2,n,k⟩:=y
  obtain ⟨e1,e2,e3,e4,e5,e6,e7,e8⟩:=hy
  simp only at e1 e2 e3 e4 e5 e6 e7 e8 ⊢
  subst e1; subst e2; subst e3; subst e4
  have lnext:next.length≤k.toNat+1:=by
   by_cases c:done=true
   ·rw [(e8 c).1]
    refine Nat.le_trans (tK _ _) ?_
    rw [List.length_take]
    omega
   ·rw [(e7 c).1,List.length_take]
    omega
  refine ⟨fun hk=>?_,fun hk=>?_⟩
  ·have tk:S'.take (k+1).toNat=S'.take k.toNat++[at_ S' k]:=by
    rw [show (k+1).toNat=k.toNat+1 from by omega,hO (by omega)]
    rfl
   generalize hv:at_ S' k=v at tk
   have below:∀ z∈S'.take k.toNat,slt z.1 v.1=true:=fun z hz=>by
    obtain ⟨j,hj,rfl⟩:=List.mem_iff_getElem.1 hz
    rw [List.length_take] at hj
    rw [List.getElem_take,← iY,← hv]
    exact aIG sk (by omega) (by omega)
   refine ⟨fun y=>y.1=S'∧y.2.1=i2∧y.2.2.2.2.1=i2∧y.2.2.2.2.2.1=(S'.length:Int)∧y.2.2.2.2.2.2=k ∧
     (¬y.2.2.2.1=true→y.2.2.1=S'.take (k+1).toNat∧∀ z∈S'.take (k+1).toNat,slt z.1 x.1=true) ∧
     (y.2.2.2.1=true→y.2.2.1=gH x (S'.take (k+1).toNat)∧∃ z∈S'.take (k+1).toNat,¬slt z.1 x.1=true),
    ⟨fun y=>y.1=S'∧y.2.1=i2∧y.2.2.2.2.1=k∧y.2.2.2.2.2.1=i2∧y.2.2.2.2.2.2.1=(S'.length:Int)∧y.2.2.2.2.2.2.2=k∧y.2.2.1.length≤k.toNat+2 ∧
     ((y.2.2.2.1 = false ∧ slt v.1 x.1 = true ∧ y.2.2.1 = S'.take k.toNat ∧ ∀ z ∈ S'.take k.toNat,slt z.1 x.1 = true) ∨
      (y.2.2.2.1=true∧¬slt v.1 x.1=true∧y.2.2.1=S'.take k.toNat++[x]∧∀ z∈S'.take k.toNat,slt z.1 x.1=true) ∨
      (y.2.2.2.1=true∧y.2.2.1=gH x (S'.take k.toNat)∧∃ z∈S'.take k.toNat,¬slt z.1 x.1=true)),⟨fun c=>⟨e5,hk,g0,hlt,?_⟩,fun c=>?_⟩,fun y hy=>?_⟩,fun y hy=>?_⟩
   ·obtain ⟨h7,h8⟩:=e7 c
    rw [hx]
    refine ⟨fun d=>⟨g0,hlt,by omega,rfl,rfl,rfl,rfl,rfl,rfl,?_,.inr (.inl ⟨rfl,fun hh=>d (k7.1 hh),?_,h8⟩)⟩,fun d=>⟨rfl,rfl,rfl,rfl,rfl,rfl,by simp only; omega,.inl ⟨Bool.eq_false_iff.2 c,k7.2 (Classical.not_not.1 d),h7,h8⟩⟩⟩
    ·simp only [List.length_append,List.length_singleton]
     omega
    ·simp only [h7]
   ·have c:=Classical.not_not.1 c
    obtain ⟨h7,h8⟩:=e8 c
    exact ⟨rfl,rfl,rfl,rfl,rfl,rfl,by simp only; omega,.inr (.inr ⟨c,h7,h8⟩)⟩
   ·obtain ⟨T,j,nx,d,k',i3,n,k2⟩:=y
    obtain ⟨f1,f2,f3,f4,f5,f6,f7,f8⟩:=hy
    simp only at f1 f2 f3 f4 f5 f6 f7 f8 ⊢
    subst f1; subst f2; subst f3; subst f5; subst f6
    rw [hv,hx]
    refine ⟨e5,hk,g0,hlt,fun c=>⟨e5,hk,by omega,rfl,rfl,f4,rfl,rfl,fun hd=>?_,fun hd=>?_⟩,fun c=>⟨rfl,rfl,f4,rfl,rfl,fun hd=>?_,fun hd=>?_⟩⟩
    ·rcases f8 with ⟨q1,q2,q3,q4⟩ | ⟨q1,_⟩ | ⟨q1,_⟩
     ·rw [tk,q3]
      refine ⟨rfl,fun z hz=>?_⟩
      rcases List.mem_append.1 hz with hz | hz
      ·exact q4 z hz
      ·rw [List.mem_singleton.1 hz]
       exact q2
     ·exact absurd q1 hd
     ·exact absurd q1 hd
    ·rcases f8 with ⟨q1,_⟩ | ⟨q1,q2,q3,q4⟩ | ⟨q1,q2,q3⟩
     ·rw [q1] at hd
      cases hd
     ·rw [tk,q3,tW [] q2 q4,if_neg c]
      exact ⟨by rw [List.append_assoc]; rfl,v,List.mem_append_right _ (List.mem_singleton.2 rfl),q2⟩
     ·rw [tk,q2,vZ v q3]
      obtain ⟨z,hz,hq⟩:=q3
      exact ⟨rfl,z,List.mem_append_left _ hz,hq⟩
    ·have c:=Classical.not_not.1 c
     rcases f8 with ⟨q1,q2,_⟩ | ⟨q1,_⟩ | ⟨q1,_⟩
     ·exact absurd c (lV q2)
     ·exact absurd q1 hd
     ·exact absurd q1 hd
    ·have c:=Classical.not_not.1 c
     rcases f8 with ⟨q1,_⟩ | ⟨q1,q2,q3,q4⟩ | ⟨q1,q2,z,hz,hq⟩
     ·rw [q1] at hd
      cases hd
     ·rw [tk,q3,tW [] q2 q4,if_pos c]
      exact ⟨rfl,v,List.mem_append_right _ (List.mem_singleton.2 rfl),q2⟩
     ·exact absurd (c ▸ below z hz) hq
   ·obtain ⟨T,j,nx,d,i3,n,k2⟩:=y
    obtain ⟨f1,f2,f3,f4,f5,f6,f7⟩:=hy
    simp only at f1 f2 f3 f4 f5 f6 f7 ⊢
    subst f1; subst f2; subst f4; subst f5
    exact ⟨by omega,by omega,⟨rfl,rfl,f3,rfl,by omega,by omega,f6,f7⟩,by omega⟩
  ·have e:S'.take k.toNat=S':=List.take_of_length_le (by omega)
   rw [e] at e7 e8
   refine ⟨fun y=>y.1=gH x S'∧y.2=i2,⟨fun c=>⟨g0,hlt,by omega,?_,rfl⟩,fun c=>⟨(e8 (Classical.not_not.1 c)).1,rfl⟩⟩,fun y hy=>?_⟩
   ·obtain ⟨h7,h8⟩:=e7 c
    show next++[at_ a i2]=_
    rw [h7,hx,wN h8]
   ·obtain ⟨T,j⟩:=y
    obtain ⟨f1,f2⟩:=hy
    simp only at f1 f2 ⊢
    subst f1; subst f2
    exact ⟨by omega,by omega,⟨by omega,by omega,st⟩,by omega⟩
 ·rw [g2,List.take_of_length_le (by omega)]
end Go.Abs
