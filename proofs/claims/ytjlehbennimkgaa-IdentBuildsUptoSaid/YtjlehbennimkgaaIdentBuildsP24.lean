/- Functions, and what the code asks of them: PIdent. -/
import Derived.KernelRfl
import Derived.Test.YtjlehbennimkgaaIdentBuildsP4
import Derived.Test.YtjlehbennimkgaaIdentBuildsP5
import Derived.Test.YtjlehbennimkgaaIdentBuildsP6
import Derived.Test.YtjlehbennimkgaaIdentBuildsP9
import Derived.Test.YtjlehbennimkgaaIdentBuildsP11
import Derived.Test.YtjlehbennimkgaaIdentBuildsP13
import Derived.Test.YtjlehbennimkgaaIdentBuildsP14
import Derived.Test.YtjlehbennimkgaaIdentBuildsP15
import Derived.Test.YtjlehbennimkgaaIdentBuildsP16
import Derived.Test.YtjlehbennimkgaaIdentBuildsP17
import Derived.Test.YtjlehbennimkgaaIdentBuildsP20
import Derived.Test.YtjlehbennimkgaaIdentBuildsP21
import Derived.Test.YtjlehbennimkgaaIdentBuildsP22
import Derived.Test.YtjlehbennimkgaaIdentBuildsP23
set_option linter.unusedVariables false
set_option linter.unusedSimpArgs false
/- Labels by their keys: facts of lists. -/
namespace Go.Abs
open Go

theorem nO {α:Type} {P:List α→Prop} (h0:P []) (h:∀ l x,P l→P (l++[x])) (l:List α):P l:=by
 have k:∀ l:List α,P l.reverse:=fun l=>by
  induction l with
  | nil=>exact h0
  | cons x l ih =>
   rw [List.reverse_cons]
   exact h _ _ ih
 have:=k l.reverse
 rwa [List.reverse_reverse] at this

theorem aCO (a:ByteArray):slt a a=false:=fT _
theorem iJ {a b c:ByteArray} (h1:slt a b=true) (h2:slt b c=true):slt a c=true:=gK h1 h2
theorem nB {a b:ByteArray} (h:slt a b=true):a≠b:=fun e=>by
 rw [e,aCO] at h
 cases h
theorem rQ {a b:ByteArray} (h1:¬slt a b=true) (h2:a≠b):slt b a=true:=by
 rcases qW.1 (Bool.eq_false_iff.2 h1) with h | h
 ·exact o5.2 h
 ·exact absurd h.symm h2

def SK (l:List cT):Prop:=l.Pairwise fun x y=>slt x.1 y.1=true
def o7 (l:List cT) (k:ByteArray):Option ByteArray:=l.foldl (fun o x=>if x.1=k then some x.2 else o) none
theorem nX (l:List cT) (x:cT) (k:ByteArray):o7 (l++[x]) k=if x.1=k then some x.2 else o7 l k:=by
 unfold o7
 rw [List.foldl_append]
 rfl
theorem nQ (l:List cT) (x:cT):cB (l++[x])=zI x (cB l):=by
 unfold cB
 rw [List.foldl_append]
 rfl

theorem rY (x z:cT):∀ {S:List cT},SK S→(z∈zI x S↔z=x∨(z∈S∧z.1≠x.1))
 | [],_=>by simp [zI]
 | y::S,h=>by
  obtain ⟨h1,h2⟩:=List.pairwise_cons.1 h
  unfold zI
  split
  next c =>
   rw [List.mem_cons,rY x z h2,List.mem_cons]
   constructor
   ·rintro (rfl | rfl | ⟨e,f⟩)
    ·exact .inr ⟨.inl rfl,nB c⟩
    ·exact .inl rfl
    ·exact .inr ⟨.inr e,f⟩
   ·rintro (rfl | ⟨rfl | e,f⟩)
    ·exact .inr (.inl rfl)
    ·exact .inl rfl
    ·exact .inr (.inr ⟨e,f⟩)
  next c =>
   split
   next d =>
    rw [List.mem_cons,List.mem_cons]
    constructor
    ·rintro (rfl | e)
     ·exact .inl rfl
     ·exact .inr ⟨.inr e,fun k=>nB (h1 z e) (d.trans k.symm)⟩
    ·rintro (rfl | ⟨rfl | e,f⟩)
     ·exact .inl rfl
     ·exact absurd d f
     ·exact .inr e
   next d =>
    have lt:=rQ c d
    rw [List.mem_cons,List.mem_cons]
    constructor
    ·rintro (rfl | rfl | e)
     ·exact .inl rfl
     ·exact .inr ⟨.inl rfl,d⟩
     ·exact .inr ⟨.inr e,fun k=>nB (iJ lt (h1 z e)) k.symm⟩
    ·rintro (rfl | ⟨rfl | e,f⟩)
     ·exact .inl rfl
     ·exact .inr (.inl rfl)
     ·exact .inr (.inr e)

theorem aB0 (x:cT):∀ {S:List cT},SK S→SK (zI x S)
 | [],_=>List.pairwise_cons.2 ⟨fun _ h=>absurd h List.not_mem_nil,List.Pairwise.nil⟩
 | y::S,h=>by
  obtain ⟨h1,h2⟩:=List.pairwise_cons.1 h
  unfold zI
  split
  next c =>
   refine List.pairwise_cons.2 ⟨fun z hz=>?_,aB0 x h2⟩
   rcases (rY x z h2).1 hz with rfl | ⟨e,_⟩
   ·exact c
   ·exact h1 z e
  next c =>
   split
   next d =>
    refine List.pairwise_cons.2 ⟨fun z hz=>?_,h2⟩
    rw [← d]
    exact h1 z hz
   next d =>
    have lt:=rQ c d
    refine List.pairwise_cons.2 ⟨fun z hz=>?_,h⟩
    rcases List.mem_cons.1 hz with rfl | hz
    ·exact lt
    ·exact iJ lt (h1 z hz)

theorem rU (l:List cT):SK (cB l):=by
 induction l using nO with
 | h0=>exact List.Pairwise.nil
 | h l x ih =>
  rw [nQ]
  exact aB0 x ih

theorem y8 (l:List cT) (z:cT):z∈cB l↔o7 l z.1=some z.2:=by
 induction l using nO with
 | h0=>exact ⟨fun h=>absurd h List.not_mem_nil,fun h=>by cases h⟩
 | h l x ih =>
  rw [nQ,rY x z (rU l),nX,ih]
  obtain ⟨a,b⟩:=x
  obtain ⟨c,d⟩:=z
  simp only [Prod.mk.injEq]
  by_cases h:a=c
  ·rw [if_pos h,Option.some.injEq]
   constructor
   ·rintro (⟨_,e⟩ | ⟨_,e⟩)
    ·exact e.symm
    ·exact absurd h.symm e
   ·exact fun e=>.inl ⟨h.symm,e.symm⟩
  ·rw [if_neg h]
   constructor
   ·rintro (⟨e,_⟩ | ⟨e,_⟩)
    ·exact absurd e.symm h
    ·exact e
   ·exact fun e=>.inr ⟨e,fun k=>h k.symm⟩

theorem SK.key {S:List cT} (h:SK S) {x y:cT} (hx:x∈S) (hy:y∈S) (e:x.1=y.1):x=y:=by
 induction S with
 | nil=>cases hx
 | cons z S ih =>
  obtain ⟨h1,h2⟩:=List.pairwise_cons.1 h
  rcases List.mem_cons.1 hx with cx | cx
  ·rcases List.mem_cons.1 hy with cy | cy
   ·rw [cx,cy]
   ·rw [cx] at e
    exact absurd e (nB (h1 y cy))
  ·rcases List.mem_cons.1 hy with cy | cy
   ·rw [cy] at e
    exact absurd e.symm (nB (h1 x cx))
   ·exact ih h2 cx cy

theorem SK.uniq:∀ {S T:List cT},SK S→SK T→(∀ z,z∈S↔z∈T)→S=T
 | [],[],_,_,_=>rfl
 | [],y::T,_,_,e=>absurd ((e y).2 (List.mem_cons_self ..)) List.not_mem_nil
 | x::S,[],_,_,e=>absurd ((e x).1 (List.mem_cons_self ..)) List.not_mem_nil
 | x::S,y::T,h,k,e=>by
  obtain ⟨h1,h2⟩:=List.pairwise_cons.1 h
  obtain ⟨k1,k2⟩:=List.pairwise_cons.1 k
  have xy:x=y:=by
   rcases List.mem_cons.1 ((e x).1 (List.mem_cons_self ..)) with c | c
   ·exact c
   ·rcases List.mem_cons.1 ((e y).2 (List.mem_cons_self ..)) with d | d
    ·exact d.symm
    ·have:=iJ (k1 x c) (h1 y d)
     rw [aCO] at this
     cases this
  subst xy
  refine congrArg (x::·) (SK.uniq h2 k2 fun z=>⟨fun hz=>?_,fun hz=>?_⟩)
  ·rcases List.mem_cons.1 ((e z).1 (List.mem_cons_of_mem _ hz)) with c | c
   ·exact absurd (congrArg Prod.fst c.symm) (nB (h1 z hz))
   ·exact c
  ·rcases List.mem_cons.1 ((e z).2 (List.mem_cons_of_mem _ hz)) with c | c
   ·exact absurd (congrArg Prod.fst c.symm) (nB (k1 z hz))
   ·exact c

/-! A map that is filled. -/
theorem aEH (k:ByteArray):iM ([]:List cT) k=false:=decide_eq_false (Nat.lt_irrefl 0)
theorem fH (x:cT) (l:List cT) (k:ByteArray):iM (x::l) k=(decide (x.1=k) || iM l k):=by
 obtain ⟨a,b⟩:=x
 unfold iM
 rw [List.length_cons,kR]
 by_cases h:a=k
 ·rw [if_pos h,decide_eq_true (Nat.succ_pos _),decide_eq_true h]
  rfl
 ·rw [if_neg h,decide_eq_false h,Bool.false_or]
  exact decide_eq_decide.2 (by omega)
theorem lO (x:cT) (l:List cT) (k:ByteArray):mat (x::l) k=if x.1=k then x.2 else mat l k:=by
 obtain ⟨a,b⟩:=x
 unfold mat
 rw [List.length_cons,kR]
 by_cases h:a=k
 ·rw [if_pos h,if_pos h]
  rfl
 ·rw [if_neg h,if_neg h,List.getD_cons_succ]
theorem yA (k v q:ByteArray):∀ m:List cT,iM (eV m k v) q=(decide (k=q) || iM m q)
 | []=>by
  show iM [(k,v)] q=_
  rw [fH]
 | (a,b)::m=>by
  unfold eV
  by_cases h:a=k
  ·rw [if_pos h,fH,fH,h]
   simp only
   cases decide (k=q) <;> rfl
  ·rw [if_neg h,fH,yA k v q m,fH]
   simp only
   cases decide (k=q) <;> cases decide (a=q) <;> rfl
theorem zM (k v q:ByteArray):∀ m:List cT,mat (eV m k v) q=if k=q then v else mat m q
 | []=>by
  show mat [(k,v)] q=_
  rw [lO]
 | (a,b)::m=>by
  unfold eV
  by_cases h:a=k
  ·rw [if_pos h,lO,lO,h]
   simp only
   split <;> rfl
  ·rw [if_neg h,lO,zM k v q m,lO]
   simp only
   by_cases c:k=q
   ·rw [if_pos c,if_pos c,if_neg fun e=>h (e.trans c.symm)]
   ·rw [if_neg c,if_neg c]
theorem nY (m:List cT) (k:ByteArray):iM m k=true↔k∈m.map Prod.fst:=by
 induction m with
 | nil=>simp [aEH]
 | cons x m ih =>
  rw [fH,Bool.or_eq_true,decide_eq_true_eq,ih,List.map_cons,List.mem_cons]
  exact or_congr ⟨Eq.symm,Eq.symm⟩ Iff.rfl
theorem iX (k v:ByteArray):∀ m:List cT,(eV m k v).map Prod.fst=if iM m k=true then m.map Prod.fst else m.map Prod.fst++[k]
 | []=>rfl
 | (a,b)::m=>by
  unfold eV
  rw [fH]
  by_cases h:a=k
  ·rw [if_pos h,if_pos (by rw [decide_eq_true h]; rfl),h]
   rfl
  ·rw [if_neg h,decide_eq_false h,Bool.false_or,List.map_cons,iX k v m]
   by_cases c:iM m k=true
   ·rw [if_pos c,if_pos c]
    rfl
   ·rw [if_neg c,if_neg c]
    rfl

def eD (l:List cT):List cT:=l.foldl (fun m x=>eV m x.1 x.2) []
theorem i5 (l:List cT) (x:cT):eD (l++[x])=eV (eD l) x.1 x.2:=by
 unfold eD
 rw [List.foldl_append]
 rfl
theorem aAT (l:List cT) (k:ByteArray):o7 l k=if iM (eD l) k=true then some (mat (eD l) k) else none:=by
 induction l using nO with
 | h0=>rfl
 | h l x ih =>
  rw [nX,i5,yA,zM,ih]
  by_cases c:x.1=k
  ·rw [if_pos c,if_pos c,decide_eq_true c,Bool.true_or,if_pos rfl]
  ·rw [if_neg c,if_neg c,decide_eq_false c,Bool.false_or]
theorem zH (l:List cT):((eD l).map Prod.fst).Nodup:=by
 induction l using nO with
 | h0=>exact List.nodup_nil
 | h l x ih =>
  rw [i5,iX]
  by_cases c:iM (eD l) x.1=true
  ·rw [if_pos c]
   exact ih
  ·rw [if_neg c]
   refine List.nodup_append.2 ⟨ih,List.nodup_cons.2 ⟨List.not_mem_nil,List.nodup_nil⟩,fun a ha b hb=>?_⟩
   rw [List.mem_singleton.1 hb]
   exact fun e=>c ((nY _ _).2 (e ▸ ha))
theorem uR (l:List cT):(eD l).length≤l.length:=by
 induction l using nO with
 | h0=>exact Nat.le_refl _
 | h l x ih =>
  have e:=congrArg List.length (iX x.1 x.2 (eD l))
  rw [List.length_map] at e
  rw [i5,e,List.length_append,List.length_singleton]
  split
  ·rw [List.length_map]
   omega
  ·rw [List.length_append,List.length_map,List.length_singleton]
   omega

theorem l9:Weak slt:=⟨fun h=>q8 h,fun {x y z} h1 h2=>Bool.eq_false_iff.2 fun h=>by
 rcases qW.1 h1 with c | c
 ·rw [iJ h (o5.2 c)] at h2
  cases h2
 ·rw [c,h2] at h
  cases h⟩
theorem qM (x:ByteArray):∀ {S:List ByteArray},(S.Pairwise fun a b=>slt a b=true)→(∀ y∈S,y≠x)→(rV slt x S).Pairwise fun a b=>slt a b=true
 | [],_,_=>List.pairwise_cons.2 ⟨fun _ h=>absurd h List.not_mem_nil,List.Pairwise.nil⟩
 | y::S,h,k=>by
  obtain ⟨h1,h2⟩:=List.pairwise_cons.1 h
  unfold rV
  split
  next c =>
   refine List.pairwise_cons.2 ⟨fun z hz=>?_,qM x h2 fun z hz=>k z (List.mem_cons_of_mem _ hz)⟩
   rcases List.mem_cons.1 (FE.mem l9 (q0 l9 x S) hz) with rfl | hz
   ·exact c
   ·exact h1 z hz
  next c =>
   have lt:=rQ c (k y (List.mem_cons_self ..))
   refine List.pairwise_cons.2 ⟨fun z hz=>?_,h⟩
   rcases List.mem_cons.1 hz with rfl | hz
   ·exact lt
   ·exact iJ lt (h1 z hz)
theorem qA:∀ {l:List ByteArray},l.Nodup→(iV slt l).Pairwise fun a b=>slt a b=true
 | [],_=>List.Pairwise.nil
 | x::l,h=>by
  obtain ⟨h1,h2⟩:=List.nodup_cons.1 h
  exact qM x (qA h2) fun y hy e=>h1 (e ▸ (lV l9).1 hy)

theorem y9 (l:List cT):((iV slt ((eD l).map Prod.fst)).map fun k=>(k,mat (eD l) k))=cB l:=by
 refine SK.uniq ?_ (rU l) fun z=>?_
 ·unfold SK
  rw [List.pairwise_map]
  exact qA (zH l)
 ·rw [y8,aAT,List.mem_map]
  obtain ⟨a,b⟩:=z
  constructor
  ·rintro ⟨k,hk,e⟩
   obtain ⟨rfl,rfl⟩:=Prod.mk.inj e
   rw [lV l9,← nY] at hk
   exact if_pos hk
  ·intro h
   simp only at h
   by_cases c:iM (eD l) a=true
   ·rw [if_pos c] at h
    exact ⟨a,(lV l9).2 ((nY _ _).1 c),Prod.ext rfl (Option.some.inj h)⟩
   ·rw [if_neg c] at h
    cases h
end Go.Abs

/- cmp.Less[string] -/
namespace Go.Abs
open Go
set_option linter.unusedVariables false
def f217.kills (a:ByteArray×ByteArray):List Hint:=[]
def f217.cuts (a:ByteArray×ByteArray):List (Nat×Σ β:Type,β→Tm):=[]
def f217.af (a:ByteArray×ByteArray):AF:=AF.mk (.seq (.region [⟨(some 4),0,.move,[.c (.bool false)],none⟩])
 (.seq (.region [oT 5 1 .move [0],
 oT 6 2 (.call false 200) [5],
 oT 7 6 .move [6],
 oG 8 7 .move [1] 7 true,
 oG 9 8 (.call false 200) [8] 7 true,
 oG 10 12 (.un .not) [9] 7 true,
 ⟨(some 11),13,.pick,[.t 7,.t 10,.c (.bool false)],none⟩,
 oT 12 14 .move [11],
 oG 13 15 .move [0] 12 false,
 oG 14 16 .move [1] 12 false,
 oG 15 17 (.bin .lss) [13,14] 12 false,
 ⟨(some 16),18,.pick,[.t 12,.c (.bool true),.t 15],none⟩,
 oT 4 19 .move [16]])
 (.ret)))
 [.tmp 4] 0 15
def f217.env:Env:=[(200,f200.C)]
def f217.tree (a:ByteArray×ByteArray):Prop:=∃ c1:ByteArray,(a.1=c1)∧True∧Br ((fun _:ByteArray=>false) c1) (∃ c4:ByteArray,(a.2=c4)∧True∧Br (!((fun _:ByteArray=>false) c4)) ((true=(bM a))∧True) (((Op.bytesLess a.1.toList a.2.toList)=(bM a))∧True)) (((Op.bytesLess a.1.toList a.2.toList)=(bM a))∧True)
def f217.vc (a:ByteArray×ByteArray):Prop:=((((fun _:ByteArray=>false) (a.1))=true→((¬(((fun _:ByteArray=>false) (a.2))=true)→(true=bM a))∧(¬(¬(((fun _:ByteArray=>false) (a.2))=true))→(Op.bytesLess a.1.toList a.2.toList=bM a))))∧(¬(((fun _:ByteArray=>false) (a.1))=true)→(Op.bytesLess a.1.toList a.2.toList=bM a)))
set_option maxRecDepth 100000 in
set_option maxHeartbeats 2000000 in
theorem f217.of (a:ByteArray×ByteArray) (h:f217.vc a):f217.tree a:=⟨a.1,⟨rfl,⟨trivial,br h Cnd.b (fun h2 k13=>⟨a.2,⟨rfl,⟨trivial,br k13 (Cnd.not Cnd.b) (fun h5 k9=>⟨k9,trivial⟩) (fun h6 k10=>⟨k10,trivial⟩)⟩⟩⟩) (fun h3 k14=>⟨k14,trivial⟩)⟩⟩⟩
theorem f217.eq (a:ByteArray×ByteArray):(f217.af a).gives f217.env (f217.args a) (f217.blks a) (f217.res a) (f217.blks' a)=f217.tree a:=by kernel_rfl
end Go.Abs

-- interregnum/interregnumlaw04.few
namespace Go.Abs
open Go
end Go.Abs

/- interregnum/interregnumlaw04.few -/
namespace Go.Abs
open Go
set_option linter.unusedVariables false
end Go.Abs

-- interregnum/ident.Sorted
namespace Go.Abs
open Go
def f385.args (a:List (aF)):List D:=[.slice .ro 2 a.length (gl aJ a)]
def f385.blks (a:List (aF)):List (List D):=[]
def f385.res (a:List (aF)):List D:=[.slice .ro 2 ((cB a).length) (gl aJ (cB a))]
def f385.blks' (a:List (aF)):List (List D):=[]
def f385.C:aM:=FnC f385.args f385.blks (fun a=>L20 a) f385.res f385.blks'
end Go.Abs

/- interregnum/ident.Sorted -/
namespace Go.Abs
open Go
set_option linter.unusedVariables false
def f385.S0 (a:List (aF)) (x:Int×(List (ByteArray×ByteArray))×(List (ByteArray))):Tm:=⟨[.dead,.dead,.dead,.mref 1000001,.msl 1000004 1 (List.length x.2.2),.dead,.dead,.dead,.dead,.dead,.dead,.dead,.dead,.slice .ro 2 a.length (gl aJ a),.int .i64 (a.length:Int),.int .i64 x.1,.dead,.dead,.dead,.dead,.dead,.dead,.dead,.dead,.dead,.dead,.dead,.dead,.dead,.dead,.dead,.dead,.dead,.dead,.dead,.dead,.dead,.dead,.dead,.dead,.dead,.dead,.dead,.dead,.dead,.dead,.dead,.dead,.dead,.dead,.dead,.dead,.dead,.dead,.dead,.dead,.dead],[(1000001,false,[.dead,.mp false (List.length x.2.1) (mks x.2.1) (mvs aA x.2.1)]),(1000004,false,[.dead,.arr true 1 (List.length x.2.2) (gl aA x.2.2)])],[]⟩
def f385.S1 (a:List (aF)) (x:(List (aF))×(List (ByteArray))×Int×Int×(List (ByteArray×ByteArray))):Tm:=⟨[.dead,.dead,.dead,.mref 1000001,.dead,.dead,.dead,.dead,.dead,.slice (.own 1000045) 2 x.1.length (gl aJ x.1),.dead,.dead,.dead,.dead,.dead,.dead,.dead,.dead,.dead,.dead,.dead,.dead,.dead,.dead,.dead,.dead,.dead,.dead,.dead,.dead,.dead,.dead,.dead,.dead,.dead,.dead,.dead,.dead,.dead,.dead,.dead,.slice .ro 1 x.2.1.length (gl aA x.2.1),.int .i64 x.2.2.1,.int .i64 x.2.2.2.1,.dead,.dead,.dead,.dead,.dead,.dead,.dead,.dead,.dead,.dead,.dead,.dead,.dead],[(1000001,false,[.dead,.mp false (List.length x.2.2.2.2) (mks x.2.2.2.2) (mvs aA x.2.2.2.2)])],[(1000045,2,x.1.length)]⟩
def f385.kills (a:List (aF)):List Hint:=[.tell (Int×(List (ByteArray×ByteArray))×(List (ByteArray))) (f385.S0 a),
 .tell ((List (aF))×(List (ByteArray))×Int×Int×(List (ByteArray×ByteArray))) (f385.S1 a)]
def f385.cuts (a:List (aF)):List (Nat×Σ β:Type,β→Tm):=[(999999,⟨Unit,fun x=>⟨[],[],[]⟩⟩),
 (1000004000002,⟨Unit,fun x=>⟨[],[],[]⟩⟩),
 (2000004000012,⟨Unit,fun x=>⟨[],[],[]⟩⟩)]
def f385.af (a:List (aF)):AF:=AF.mk (.seq (.region [oT 2 1000000 (.nilSl 2) []])
 (.seq (.region [oT 12 1000001 (.mkMap false false) [],
 oT 3 1000002 .move [12]])
 (.seq (.region [oT 4 1000003 (.nilSl 1) []])
 (.seq (.thaw 1000004 4) (.seq (.seq (.region [oT 13 1000005 .move [0],
 oT 14 1000006 (.len false) [13],
 ⟨(some 15),1000007,.move,[.c (.int .i64 (0))],none⟩])
 (.block 0 (.loopT (Int×(List (ByteArray×ByteArray))×(List (ByteArray))) (f385.S0 a) 1000008 1000040 (.seq (.region [oT 16 1000008 (.bin .lss) [15,14]])
 (.seq (.cond (.t 16) (.skip) (.exit 0))
 (.seq (.block 1 (.seq (.region [oT 17 1000009 (.indexAddr 2 none) [13,15],
 oT 18 1000010 (.load true 2) [17],
 oT 6 1000011 (.alloc [.str ByteArray.empty,.str ByteArray.empty]) [],
 ⟨none,1000014,(.store 2),[.t 6,.t 18],none⟩])
 (.seq (.seq (.region [oT 20 1000015 .move [3],
 oT 21 1000016 (.fieldAddr 0) [6],
 oT 22 1000017 (.load false 1) [21],
 oT 23 1000018 (.mapGet true false [.str ByteArray.empty]) [20,22],
 oT 19 1000019 .move [23],
 oT 24 1000020 (.extract 0) [19],
 oT 25 1000021 (.extract 1) [19],
 oT 7 1000022 .move [24],
 oT 8 1000023 .move [25]])
 (.seq (.region [oT 26 1000024 .move [8],
 oT 27 1000025 (.un .not) [26]])
 (.cond (.t 27) (.region [oT 28 1000026 .move [4],
 oT 29 1000027 (.fieldAddr 0) [6],
 oT 30 1000028 (.load false 1) [29],
 oT 31 1000029 (.buildSlice 1 1 [.str ByteArray.empty] [(0,1)]) [30],
 oT 32 1000030 (.append 1 16) [28,31],
 oT 4 1000031 .move [32]]) (.skip))))
 (.region [oT 33 1000032 .move [3],
 oT 34 1000033 (.fieldAddr 0) [6],
 oT 35 1000034 (.load false 1) [34],
 oT 36 1000035 (.fieldAddr 1) [6],
 oT 37 1000036 (.load false 1) [36],
 ⟨none,1000037,.mapSet,[.t 33,.t 35,.t 37],none⟩]))))
 (.region [⟨(some 38),1000038,(.bin .add),[.t 15,.c (.int .i64 (1))],none⟩,
 oT 15 1000039 .move [38]])))))))
 (.seq (.region [oT 39 1000040 .move [4],
 oT 40 1000041 (.call true 167) [39]])
 (.seq (.frz 4) (.seq (.region [oT 9 1000045 (.nilSl 2) []])
 (.seq (.seq (.region [oT 41 1000046 .move [4],
 oT 42 1000047 (.len false) [41],
 ⟨(some 43),1000048,.move,[.c (.int .i64 (0))],none⟩])
 (.block 2 (.loopT ((List (aF))×(List (ByteArray))×Int×Int×(List (ByteArray×ByteArray))) (f385.S1 a) 1000049 1000064 (.seq (.region [oT 44 1000049 (.bin .lss) [43,42]])
 (.seq (.cond (.t 44) (.skip) (.exit 2))
 (.seq (.block 3 (.seq (.region [oT 45 1000050 (.indexAddr 1 none) [41,43],
 oT 46 1000051 (.load false 1) [45],
 oT 11 1000052 .move [46]])
 (.region [oT 47 1000053 .move [9],
 oT 48 1000054 .move [11],
 oT 49 1000055 .move [3],
 oT 50 1000056 .move [11],
 oT 51 1000057 (.mapGet false false [.str ByteArray.empty]) [49,50],
 oT 52 1000058 (.build [.str ByteArray.empty,.str ByteArray.empty] [(0,1),(1,1)]) [48,51],
 oT 53 1000059 (.buildSlice 2 1 [.str ByteArray.empty,.str ByteArray.empty] [(0,2)]) [52],
 oT 54 1000060 (.append 2 32) [47,53],
 oT 9 1000061 .move [54]])))
 (.region [⟨(some 55),1000062,(.bin .add),[.t 43,.c (.int .i64 (1))],none⟩,
 oT 43 1000063 .move [55]])))))))
 (.seq (.region [oT 56 1000064 .move [9],
 oT 2 1000065 .move [56]])
 (.ret)))))))))))
 [.tmp 2] 0 56
def f385.env:Env:=[(167,f167.C)]
def f385.tree (a:List (aF)):Prop:=∃ (I2:(Int×(List (ByteArray×ByteArray))×(List (ByteArray)))→Prop) (μ3:(Int×(List (ByteArray×ByteArray))×(List (ByteArray)))→Nat),(∃ x1:Int×(List (ByteArray×ByteArray))×(List (ByteArray)),(0=(List.length x1.2.2))∧SlS aJ a (((a.length:Int)=(a.length:Int))∧((0:Int)=x1.1)∧(0=(List.length x1.2.1))∧(∀ i,i < (List.length x1.2.1)→(fun _=>.empty) i=(mks x1.2.1) i)∧(∀ i,i < (List.length x1.2.1)→DEqs (gP i) ((mvs aA x1.2.1) i))∧SlQ 0 (List.length x1.2.2) gP (gl aA x1.2.2) (I2 x1)))∧∀ y4:Int×(List (ByteArray×ByteArray))×(List (ByteArray)),I2 y4→(Br (decide (y4.1 < (a.length:Int))) (Br (decide ((0:Int)≤y4.1)&&decide (y4.1 < (a.length:Int))) (Br (iM y4.2.1 ((at_ a y4.1).1)) (Let (IntKind.i64.wrap (y4.1+(1:Int))) (fun v10:Int=>∃ x11:Int×(List (ByteArray×ByteArray))×(List (ByteArray)),((List.length y4.2.2)=(List.length x11.2.2))∧SlS aJ a (((a.length:Int)=(a.length:Int))∧(v10=x11.1)∧((mpN (mks y4.2.1) ((at_ a y4.1).1) (List.length y4.2.1))=(List.length x11.2.1))∧(∀ i,i < (List.length x11.2.1)→(i6 (mks y4.2.1) ((at_ a y4.1).1) (List.length y4.2.1)) i=(mks x11.2.1) i)∧(∀ i,i < (List.length x11.2.1)→DEqs ((iS (mks y4.2.1) (mvs aA y4.2.1) ((at_ a y4.1).1) [.str ((at_ a y4.1).2)] (List.length y4.2.1)) i) ((mvs aA x11.2.1) i))∧SlQ (List.length y4.2.2) (List.length x11.2.2) (gl aA y4.2.2) (gl aA x11.2.2) (I2 x11∧μ3 x11 < μ3 y4)))) (((List.length y4.2.2)=(List.length y4.2.2)∧tY (((List.length y4.2.2)+1) * 16))∧(Let (IntKind.i64.wrap (y4.1+(1:Int))) (fun v16:Int=>∃ x17:Int×(List (ByteArray×ByteArray))×(List (ByteArray)),(((List.length y4.2.2)+1)=(List.length x17.2.2))∧SlS aJ a (((a.length:Int)=(a.length:Int))∧(v16=x17.1)∧((mpN (mks y4.2.1) ((at_ a y4.1).1) (List.length y4.2.1))=(List.length x17.2.1))∧(∀ i,i < (List.length x17.2.1)→(i6 (mks y4.2.1) ((at_ a y4.1).1) (List.length y4.2.1)) i=(mks x17.2.1) i)∧(∀ i,i < (List.length x17.2.1)→DEqs ((iS (mks y4.2.1) (mvs aA y4.2.1) ((at_ a y4.1).1) [.str ((at_ a y4.1).2)] (List.length y4.2.1)) i) ((mvs aA x17.2.1) i))∧SlQ ((List.length y4.2.2)+1) (List.length x17.2.2) (gA (gl aA y4.2.2) (List.length y4.2.2) (fun _=>[.str ((at_ a y4.1).1)])) (gl aA x17.2.2) (I2 x17∧μ3 x17 < μ3 y4)))))) False) (((List.length y4.2.2)=(List.length y4.2.2))∧∃ c25:List (ByteArray),((List.length y4.2.2)=List.length c25)∧SlQ (List.length y4.2.2) (List.length c25) (gl aA y4.2.2) (gl aA c25) ((lD c25)∧((List.length ((dL slt) c25))=(List.length y4.2.2))∧(∃ (I28:((List (aF))×(List (ByteArray))×Int×Int×(List (ByteArray×ByteArray)))→Prop) (μ29:((List (aF))×(List (ByteArray))×Int×Int×(List (ByteArray×ByteArray)))→Nat),(∃ x27:(List (aF))×(List (ByteArray))×Int×Int×(List (ByteArray×ByteArray)),SlQ 0 x27.1.length gP (gl aJ x27.1) (SlQ (List.length ((dL slt) c25)) x27.2.1.length (gl aA ((dL slt) c25)) (gl aA x27.2.1) (((List.length ((dL slt) c25):Int)=x27.2.2.1)∧((0:Int)=x27.2.2.2.1)∧((List.length y4.2.1)=(List.length x27.2.2.2.2))∧(∀ i,i < (List.length x27.2.2.2.2)→(mks y4.2.1) i=(mks x27.2.2.2.2) i)∧(∀ i,i < (List.length x27.2.2.2.2)→DEqs ((mvs aA y4.2.1) i) ((mvs aA x27.2.2.2.2) i))∧(0=x27.1.length)∧I28 x27)))∧∀ y30:(List (aF))×(List (ByteArray))×Int×Int×(List (ByteArray×ByteArray)),I28 y30→(Br (decide (y30.2.2.2.1 < y30.2.2.1)) (Br (decide ((0:Int)≤y30.2.2.2.1)&&decide (y30.2.2.2.1 < (y30.2.1.length:Int))) (Br (iM y30.2.2.2.2 (at_ y30.2.1 y30.2.2.2.1)) ((y30.1.length=y30.1.length∧tY ((y30.1.length+1) * 32))∧(Let (IntKind.i64.wrap (y30.2.2.2.1+(1:Int))) (fun v36:Int=>∃ x37:(List (aF))×(List (ByteArray))×Int×Int×(List (ByteArray×ByteArray)),SlQ (y30.1.length+1) x37.1.length (gA (gl aJ y30.1) y30.1.length (fun _=>[.str (at_ y30.2.1 y30.2.2.2.1),.str (mat y30.2.2.2.2 (at_ y30.2.1 y30.2.2.2.1))])) (gl aJ x37.1) (SlQ y30.2.1.length x37.2.1.length (gl aA y30.2.1) (gl aA x37.2.1) ((y30.2.2.1=x37.2.2.1)∧(v36=x37.2.2.2.1)∧((List.length y30.2.2.2.2)=(List.length x37.2.2.2.2))∧(∀ i,i < (List.length x37.2.2.2.2)→(mks y30.2.2.2.2) i=(mks x37.2.2.2.2) i)∧(∀ i,i < (List.length x37.2.2.2.2)→DEqs ((mvs aA y30.2.2.2.2) i) ((mvs aA x37.2.2.2.2) i))∧((y30.1.length+1)=x37.1.length)∧I28 x37∧μ29 x37 < μ29 y30))))) ((y30.1.length=y30.1.length∧tY ((y30.1.length+1) * 32))∧(Let (IntKind.i64.wrap (y30.2.2.2.1+(1:Int))) (fun v42:Int=>∃ x43:(List (aF))×(List (ByteArray))×Int×Int×(List (ByteArray×ByteArray)),SlQ (y30.1.length+1) x43.1.length (gA (gl aJ y30.1) y30.1.length (fun _=>[.str (at_ y30.2.1 y30.2.2.2.1),.str ByteArray.empty])) (gl aJ x43.1) (SlQ y30.2.1.length x43.2.1.length (gl aA y30.2.1) (gl aA x43.2.1) ((y30.2.2.1=x43.2.2.1)∧(v42=x43.2.2.2.1)∧((List.length y30.2.2.2.2)=(List.length x43.2.2.2.2))∧(∀ i,i < (List.length x43.2.2.2.2)→(mks y30.2.2.2.2) i=(mks x43.2.2.2.2) i)∧(∀ i,i < (List.length x43.2.2.2.2)→DEqs ((mvs aA y30.2.2.2.2) i) ((mvs aA x43.2.2.2.2) i))∧((y30.1.length+1)=x43.1.length)∧I28 x43∧μ29 x43 < μ29 y30)))))) False) ((y30.1.length=y30.1.length)∧SlQ y30.1.length ((cB a).length) (gl aJ y30.1) (gl aJ (cB a)) (True)))))))
def f385.vc (a:List (aF)):Prop:=(∃ (I2:(Int×(List (ByteArray×ByteArray))×(List (ByteArray)))→Prop) (μ3:(Int×(List (ByteArray×ByteArray))×(List (ByteArray)))→Nat),I2 ((0:Int),[],[])∧∀ y4:Int×(List (ByteArray×ByteArray))×(List (ByteArray)),I2 y4→((y4.1 < (a.length:Int)→((0:Int)≤y4.1∧y4.1 < (a.length:Int)∧((iM y4.2.1 ((at_ a y4.1).1)=true→(-9223372036854775808≤(y4.1+(1:Int))∧(y4.1+(1:Int))≤9223372036854775807∧(I2 ((y4.1+(1:Int)),eV y4.2.1 ((at_ a y4.1).1) ((at_ a y4.1).2),y4.2.2)∧μ3 ((y4.1+(1:Int)),eV y4.2.1 ((at_ a y4.1).1) ((at_ a y4.1).2),y4.2.2) < μ3 y4)))∧(¬(iM y4.2.1 ((at_ a y4.1).1)=true)→((List.length y4.2.2)+1≤1073741824∧(-9223372036854775808≤(y4.1+(1:Int))∧(y4.1+(1:Int))≤9223372036854775807∧(I2 ((y4.1+(1:Int)),eV y4.2.1 ((at_ a y4.1).1) ((at_ a y4.1).2),y4.2.2++([(at_ a y4.1).1]))∧μ3 ((y4.1+(1:Int)),eV y4.2.1 ((at_ a y4.1).1) ((at_ a y4.1).2),y4.2.2++([(at_ a y4.1).1])) < μ3 y4)))))))∧(¬(y4.1 < (a.length:Int))→(lD y4.2.2∧((List.length ((dL slt) (y4.2.2)))=(List.length y4.2.2)∧(∃ (I28:((List (aF))×(List (ByteArray))×Int×Int×(List (ByteArray×ByteArray)))→Prop) (μ29:((List (aF))×(List (ByteArray))×Int×Int×(List (ByteArray×ByteArray)))→Nat),I28 ([],((dL slt) (y4.2.2)),(List.length ((dL slt) (y4.2.2)):Int),(0:Int),y4.2.1)∧∀ y30:(List (aF))×(List (ByteArray))×Int×Int×(List (ByteArray×ByteArray)),I28 y30→((y30.2.2.2.1 < y30.2.2.1→((0:Int)≤y30.2.2.2.1∧y30.2.2.2.1 < (y30.2.1.length:Int)∧((iM y30.2.2.2.2 (at_ y30.2.1 y30.2.2.2.1)=true→(y30.1.length+1≤1073741824∧(-9223372036854775808≤(y30.2.2.2.1+(1:Int))∧(y30.2.2.2.1+(1:Int))≤9223372036854775807∧(I28 (y30.1++([(at_ y30.2.1 y30.2.2.2.1,mat y30.2.2.2.2 (at_ y30.2.1 y30.2.2.2.1))]),y30.2.1,y30.2.2.1,(y30.2.2.2.1+(1:Int)),y30.2.2.2.2)∧μ29 (y30.1++([(at_ y30.2.1 y30.2.2.2.1,mat y30.2.2.2.2 (at_ y30.2.1 y30.2.2.2.1))]),y30.2.1,y30.2.2.1,(y30.2.2.2.1+(1:Int)),y30.2.2.2.2) < μ29 y30))))∧(¬(iM y30.2.2.2.2 (at_ y30.2.1 y30.2.2.2.1)=true)→(y30.1.length+1≤1073741824∧(-9223372036854775808≤(y30.2.2.2.1+(1:Int))∧(y30.2.2.2.1+(1:Int))≤9223372036854775807∧(I28 (y30.1++([(at_ y30.2.1 y30.2.2.2.1,ByteArray.empty)]),y30.2.1,y30.2.2.1,(y30.2.2.2.1+(1:Int)),y30.2.2.2.2)∧μ29 (y30.1++([(at_ y30.2.1 y30.2.2.2.1,ByteArray.empty)]),y30.2.1,y30.2.2.1,(y30.2.2.2.1+(1:Int)),y30.2.2.2.2) < μ29 y30)))))))∧(¬(y30.2.2.2.1 < y30.2.2.1)→(y30.1=cB a)))))))))
set_option maxRecDepth 100000 in
set_option maxHeartbeats 2000000 in
theorem f385.of (a:List (aF)) (h:f385.vc a):f385.tree a:=Exists.elim h (fun I2 h60_=>Exists.elim h60_ (fun μ3 h60=>⟨I2,μ3,⟨((0:Int),[],[]),⟨(aY gP (Rds.nil (enc:=aA))),SlS.mk  (⟨rfl,⟨rfl,mpK Mds.nil (slQ (Rds.nil (enc:=aA)) (h60.1))⟩⟩)⟩⟩,fun y4 h62=>br (h60.2 y4 h62) Cnd.dec (fun h5 k58=>chk k58.2.2 Cnd.ix ⟨k58.1,k58.2.1⟩ (fun h7 k24=>br k24 Cnd.b (fun h8 k22=>wrapK.i64 k22 (fun h13 h14 k15=>⟨((y4.1+(1:Int)),eV y4.2.1 ((at_ a y4.1).1) ((at_ a y4.1).2),y4.2.2),⟨(aY (gl aA y4.2.2) (Rds.self (enc:=aA))),SlS.mk  (⟨rfl,⟨rfl,mpK (Mds.set (enc:=aA) (Mds.self (enc:=aA)) (DEqs.refl _)) (slQ (Rds.self (enc:=aA)) (k15))⟩⟩)⟩⟩)) (fun h9 k23=>⟨⟨rfl,wG k23.1 (by decide)⟩,wrapK.i64 k23.2 (fun h19 h20 k21=>⟨((y4.1+(1:Int)),eV y4.2.1 ((at_ a y4.1).1) ((at_ a y4.1).2),y4.2.2++([(at_ a y4.1).1])),⟨(aY (gA (gl aA y4.2.2) (List.length y4.2.2) (fun _=>[.str ((at_ a y4.1).1)])) (Rds.app (enc:=aA) (Rds.self (enc:=aA)) (Rds.one (enc:=aA) (DEqs.refl _)))),SlS.mk  (⟨rfl,⟨rfl,mpK (Mds.set (enc:=aA) (Mds.self (enc:=aA)) (DEqs.refl _)) (slQ (Rds.app (enc:=aA) (Rds.self (enc:=aA)) (Rds.one (enc:=aA) (DEqs.refl _))) (k21))⟩⟩)⟩⟩)⟩))) (fun h6 k59=>⟨rfl,⟨y4.2.2,⟨(aY (gl aA y4.2.2) (Rds.self (enc:=aA))),slQ (Rds.self (enc:=aA)) (⟨k59.1,hO k59.2 (fun (h26:(List.length ((dL slt) (y4.2.2)))=(List.length y4.2.2)) hk=>⟨h26,Exists.elim hk (fun I28 h54_=>Exists.elim h54_ (fun μ29 h54=>⟨I28,μ29,⟨([],((dL slt) (y4.2.2)),(List.length ((dL slt) (y4.2.2)):Int),(0:Int),y4.2.1),slQ (Rds.nil (enc:=aJ)) (slQ (Rds.self (enc:=aA)) (⟨rfl,⟨rfl,mpK (Mds.self (enc:=aA)) (⟨(aY gP (Rds.nil (enc:=aJ))),h54.1⟩)⟩⟩))⟩,fun y30 h56=>br (h54.2 y30 h56) Cnd.dec (fun h31 k52=>chk k52.2.2 Cnd.ix ⟨k52.1,k52.2.1⟩ (fun h33 k50=>br k50 Cnd.b (fun h34 k48=>⟨⟨rfl,(wG k48.1 (by decide))⟩,wrapK.i64 k48.2 (fun h39 h40 k41=>⟨(y30.1++([(at_ y30.2.1 y30.2.2.2.1,mat y30.2.2.2.2 (at_ y30.2.1 y30.2.2.2.1))]),y30.2.1,y30.2.2.1,(y30.2.2.2.1+(1:Int)),y30.2.2.2.2),slQ (Rds.app (enc:=aJ) (Rds.self (enc:=aJ)) (Rds.one (enc:=aJ) (DEqs.refl _))) (slQ (Rds.self (enc:=aA)) (⟨rfl,⟨rfl,mpK (Mds.self (enc:=aA)) (⟨(aY (gA (gl aJ y30.1) y30.1.length (fun _=>[.str (at_ y30.2.1 y30.2.2.2.1),.str (mat y30.2.2.2.2 (at_ y30.2.1 y30.2.2.2.1))])) (Rds.app (enc:=aJ) (Rds.self (enc:=aJ)) (Rds.one (enc:=aJ) (DEqs.refl _)))),k41⟩)⟩⟩))⟩)⟩) (fun h35 k49=>⟨⟨rfl,(wG k49.1 (by decide))⟩,wrapK.i64 k49.2 (fun h45 h46 k47=>⟨(y30.1++([(at_ y30.2.1 y30.2.2.2.1,ByteArray.empty)]),y30.2.1,y30.2.2.1,(y30.2.2.2.1+(1:Int)),y30.2.2.2.2),slQ (Rds.app (enc:=aJ) (Rds.self (enc:=aJ)) (Rds.one (enc:=aJ) (DEqs.refl _))) (slQ (Rds.self (enc:=aA)) (⟨rfl,⟨rfl,mpK (Mds.self (enc:=aA)) (⟨(aY (gA (gl aJ y30.1) y30.1.length (fun _=>[.str (at_ y30.2.1 y30.2.2.2.1),.str ByteArray.empty])) (Rds.app (enc:=aJ) (Rds.self (enc:=aJ)) (Rds.one (enc:=aJ) (DEqs.refl _)))),k47⟩)⟩⟩))⟩)⟩))) (fun h32 k53=>⟨rfl,slQ (Rds.to (Rds.self (enc:=aJ)) k53) (trivial)⟩)⟩))⟩)⟩)⟩⟩⟩)⟩))
theorem f385.eq (a:List (aF)):(f385.af a).gives f385.env (f385.args a) (f385.blks a) (f385.res a) (f385.blks' a)=f385.tree a:=by kernel_rfl
end Go.Abs

-- interregnum/interregnumref04.Sorted
namespace Go.Abs
open Go
end Go.Abs

/- interregnum/interregnumref04.Sorted -/
namespace Go.Abs
open Go
set_option linter.unusedVariables false
end Go.Abs

-- interregnum/ident.Value
namespace Go.Abs
open Go
end Go.Abs

/- interregnum/ident.Value -/
namespace Go.Abs
open Go
set_option linter.unusedVariables false
end Go.Abs

-- interregnum/interregnumref04.Value
namespace Go.Abs
open Go
end Go.Abs

/- interregnum/interregnumref04.Value -/
namespace Go.Abs
open Go
set_option linter.unusedVariables false
end Go.Abs

/- Layer 4: labels by their keys. -/
namespace Go.Abs
open Go

theorem f217.ok (a:ByteArray×ByteArray) (_:True):f217.vc a:=⟨fun c=>(by cases c),fun _=>rfl⟩

theorem pY (l:List ByteArray):dL slt l=iV slt l:=aEI slt yG aHW l
theorem vH (l:List ByteArray):(dL slt l).length=l.length:=by rw [pY,nI]

theorem f385.ok (a:List cT) (h:L20 a):f385.vc a:=by
 have h:a.length≤1048576:=h
 refine ⟨fun y=>0≤y.1∧y.1≤(a.length:Int)∧y.2.1=eD (a.take y.1.toNat)∧y.2.2=y.2.1.map Prod.fst,fun y=>a.length - y.1.toNat,⟨by simp only; omega,by simp only; omega,rfl,rfl⟩,fun y hy=>?_⟩
 obtain ⟨i,m,keys⟩:=y
 obtain ⟨g0,g1,g2,g3⟩:=hy
 simp only at g0 g1 g2 g3 ⊢
 subst g3
 refine ⟨fun hlt=>?_,fun hge=>?_⟩
 ·have st:eV m (at_ a i).1 (at_ a i).2=eD (a.take (i+1).toNat):=by
   rw [show (i+1).toNat=i.toNat+1 from by omega,uW (by omega),i5,← g2]
   rfl
  have hl:=uR (a.take i.toNat)
  rw [← g2,List.length_take] at hl
  refine ⟨g0,hlt,fun c=>⟨by omega,by omega,⟨by omega,by omega,st,?_⟩,by omega⟩,fun c=>⟨?_,by omega,by omega,⟨by omega,by omega,st,?_⟩,by omega⟩⟩
  ·rw [iX,if_pos c]
  ·rw [List.length_map]
   omega
  ·rw [iX,if_neg c]
 ·have e:a.take i.toNat=a:=List.take_of_length_le (by omega)
  rw [e] at g2
  subst g2
  have hl:=uR a
  refine ⟨?_,vH _,?_⟩
  ·unfold lD
   rw [List.length_map]
   omega
  ·have hS:(dL slt ((eD a).map Prod.fst)).length=(eD a).length:=by rw [vH,List.length_map]
   have hin:∀ x∈dL slt ((eD a).map Prod.fst),iM (eD a) x=true:=fun x hx=>by
    rw [pY,lV l9] at hx
    exact (nY _ _).2 hx
   have hK:=y9 a
   rw [← pY] at hK
   generalize dL slt ((eD a).map Prod.fst)=S at hS hin hK ⊢
   refine ⟨fun y=>y.2.1=S∧y.2.2.1=(S.length:Int)∧0≤y.2.2.2.1∧y.2.2.2.1≤(S.length:Int)∧y.2.2.2.2=eD a∧y.1=(S.take y.2.2.2.1.toNat).map fun k=>(k,mat (eD a) k),fun y=>S.length - y.2.2.2.1.toNat,⟨rfl,rfl,by simp only; omega,by simp only; omega,rfl,rfl⟩,fun y hy=>?_⟩
   obtain ⟨out,ks,n,j,m⟩:=y
   obtain ⟨e1,e2,e3,e4,e5,e6⟩:=hy
   simp only at e1 e2 e3 e4 e5 e6 ⊢
   subst e1; subst e2; subst e5
   refine ⟨fun hlt=>⟨e3,hlt,fun c=>⟨?_,by omega,by omega,⟨rfl,rfl,by omega,by omega,rfl,?_⟩,by omega⟩,fun c=>absurd (hin _ (aFO e3 hlt)) c⟩,fun hge=>?_⟩
   ·rw [e6,List.length_map,List.length_take]
    omega
   ·rw [show (j+1).toNat=j.toNat+1 from by omega,uW (by omega),List.map_append,← e6]
    rfl
   ·rw [e6,List.take_of_length_le (by omega)]
    exact hK

end Go.Abs
