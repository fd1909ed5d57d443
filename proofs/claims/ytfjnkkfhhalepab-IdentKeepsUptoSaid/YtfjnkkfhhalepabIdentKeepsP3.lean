/- The abstract machine and its soundness. -/
import Derived.Carry
import Derived.ChangeOld
import Derived.Lib.Bytealg
import Derived.OpenShut
import Derived.Test.YtfjnkkfhhalepabIdentKeepsP2
set_option linter.unusedVariables false
set_option linter.unusedSimpArgs false
namespace Go.Abs
open Go
def σOf (w:World):Sg:=fun b o=>match w.heap[b]? with
 | some (.cells c _ _)=>match c[o]? with
  | some v=>if v.oneCell' then some v else none
  | none=>none
 | _=>none
structure aD3 (H:Type) where
 one:DataW H→Nat
 all:List (DataW H)→Nat
 str:∀ bs,one (.lit (.string bs))=bs.length+1
 pos:∀ d,1≤one d
 slice:∀ e s,one (.slice e s)=all e+all s+1
 agg:∀ ps,one (.agg ps)=all ps+1
 nil:all []=0
 cons:∀ d r,all (d::r)=one d+all r
structure Codec.Data {α:Type} (C:Codec α):Prop where
 len:∀ a,(C.enc a).length=C.len
 pure:∀ a,∀ d∈C.enc a,d=d.pure1∧d≠.dead
structure iM {α:Type} (P:Program) (t:TypeId) (C:Codec α):Prop where
 data:C.Data
 cells:P.cellsOf t=C.len
 read:∀ {H:Type} (eH:TypeId×Value→H) (B:aD3 H) (w:World) (base:Nat) (spare:Nat→Bool) (fuel:Nat) (cs:List Value) (x:DataW H×List MemPlace),DataW.trod eH P w base spare true fuel t cs=some x →
  ∃ a,C.ok a∧C.size a≤B.one x.1∧cs.length=C.len∧∀ j,j < C.len→Rp (σOf w) (cs.getD j undef) (nth (C.enc a) j .dead)
structure wH {α:Type} (P:Program) (l:List (TypeId×Nat)) (off:Nat) (C:Codec α):Prop where
 data:C.Data
 read:∀ {H:Type} (eH:TypeId×Value→H) (B:aD3 H) (w:World) (base:Nat) (spare:Nat→Bool) (n:Nat) (cs:List Value) (xs:List (DataW H×List MemPlace)),xs.length=l.length →
  (∀ (i:Nat) (f:TypeId×Nat),l[i]? = some f→DataW.trod eH P w base spare true n f.1 ((cs.drop f.2).take (P.cellsOf f.1))=xs[i]?) →
  ∃ a,C.ok a∧C.size a≤B.all (xs.map (·.1))∧∀ j,j < C.len→Rp (σOf w) (cs.getD (off+j) undef) (nth (C.enc a) j .dead)
section
variable {P:Program} {t:TypeId} {α β:Type}
theorem Rp.oneCell {σ:Sg} {v:Value} {d:D} (h:Rp σ v d) (hd:d≠.dead):v.oneCell'=true:=by
 cases h <;> first | rfl | exact absurd rfl hd
theorem Codec.Data.nth {C:Codec α} (h:C.Data) (a:α) {j:Nat} (hj:j < C.len):nth (C.enc a) j .dead=(Abs.nth (C.enc a) j .dead).pure1∧Abs.nth (C.enc a) j .dead≠.dead:=by
 have hj':j < (C.enc a).length:=by rw [h.len]; exact hj
 rw [cP _ _ hj']
 exact h.pure a _ (List.getElem_mem hj')
theorem aEQ:zG.Data:=⟨fun _=>rfl,fun a d h=>by simp [zG] at h; subst h; exact ⟨rfl,fun h=>by cases h⟩⟩
theorem aE6 (k:IntKind):(aAN k).Data:=⟨fun _=>rfl,fun a d h=>by simp [aAN] at h; subst h; exact ⟨rfl,fun h=>by cases h⟩⟩
theorem aDS:yT.Data:=⟨fun _=>rfl,fun a d h=>by simp [yT] at h; subst h; exact ⟨rfl,fun h=>by cases h⟩⟩
theorem aF0:aGI.Data:=⟨fun _=>rfl,fun a d h=>by simp [aGI] at h; subst h; exact ⟨rfl,fun h=>by cases h⟩⟩
theorem aB7 [Inhabited α] (C:Codec α):(eN C).Data:=⟨fun _=>rfl,fun a d h=>by simp [eN] at h; subst h; exact ⟨rfl,fun h=>by cases h⟩⟩
theorem aDP {C:Codec α} {D:Codec β} (h:C.Data) (k:D.Data):(cL C D).Data:=⟨fun a=>by simp [cL,h.len,k.len],fun a d hd=>by
 simp only [cL,List.mem_append] at hd
 rcases hd with hd | hd
 ·exact h.pure _ _ hd
 ·exact k.pure _ _ hd⟩
theorem zD {C:Codec α} (h:C.Data):(nK C).Data:=⟨h.len,h.pure⟩
theorem aH3 (ht:P.underlying t=some .bool) (hc:P.cellsOf t=1):iM P t zG:=⟨aEQ,hc,fun eH B w base spare fuel cs x h=>by
 obtain ⟨b,rfl,rfl⟩:=DataW.trod_bool ht h
 refine ⟨b,trivial,B.pos _,rfl,fun j hj=>?_⟩
 have:j=0:=by simp only [zG] at hj; omega
 subst this
 exact .bool b⟩
theorem aIK {k:IntKind} (ht:P.underlying t=some (.int k)) (hc:P.cellsOf t=1):iM P t (aAN k):=⟨aE6 k,hc,fun eH B w base spare fuel cs x h=>by
 obtain ⟨n,rfl,rfl,hw⟩:=DataW.trod_int ht h
 refine ⟨n,hw,B.pos _,rfl,fun j hj=>?_⟩
 have:j=0:=by simp only [aAN] at hj; omega
 subst this
 exact .int k n⟩
theorem aH8 (ht:P.underlying t=some (.int .u8)) (hc:P.cellsOf t=1):iM P t yT:=⟨aDS,hc,fun eH B w base spare fuel cs x h=>by
 obtain ⟨n,rfl,rfl,hw⟩:=DataW.trod_int ht h
 have hb:0≤n∧n≤255:=by
  simp [Lit.wf,IntKind.min,IntKind.max,IntKind.signed,IntKind.bits] at hw
  omega
 refine ⟨UInt8.ofNat n.toNat,trivial,B.pos _,rfl,fun j hj=>?_⟩
 have:j=0:=by simp only [yT] at hj; omega
 subst this
 have e:((UInt8.ofNat n.toNat).toNat:Int)=n:=by rw [UInt8.toNat_ofNat']; omega
 show Rp (σOf w) (.int .u8 n) (.int .u8 ((UInt8.ofNat n.toNat).toNat:Int))
 rw [e]
 exact .int .u8 n⟩
theorem aEE (ht:P.underlying t=some .string) (hc:P.cellsOf t=1):iM P t aGI:=⟨aF0,hc,fun eH B w base spare fuel cs x h=>by
 obtain ⟨s,rfl,rfl,hw⟩:=DataW.trod_string ht h
 refine ⟨s,trivial,?_,rfl,fun j hj=>?_⟩
 ·rw [B.str,Array.length_toList]
  exact Nat.le_refl _
 ·have:j=0:=by simp only [aGI] at hj; omega
  subst this
  exact .str s⟩
theorem zV {a:Addr} (h:a.spot=none) (n:Nat):a.add n=⟨a.block,a.off+n,none⟩:=by
 unfold Addr.add
 cases a
 simp only at h
 subst h
 split
 ·rename_i h; subst h; rfl
 ·rfl
theorem aAF {p:Nat→α→Prop} [Inhabited α] (n:Nat) (h:∀ i,i < n→∃ a,p i a):∃ l:List α,l.length=n∧∀ i,i < n→p i (l.getD i default):=by
 induction n with
 | zero=>exact ⟨[],rfl,fun i hi=>by omega⟩
 | succ n ih =>
  obtain ⟨l,h1,h2⟩:=ih fun i hi=>h i (by omega)
  obtain ⟨a,ha⟩:=h n (by omega)
  refine ⟨l++[a],by simp [h1],fun i hi=>?_⟩
  rcases Nat.lt_or_ge i n with h3 | h3
  ·have:=h2 i h3
   rw [List.getD_eq_getElem?_getD] at this ⊢
   rw [List.getElem?_append_left (by omega)]
   exact this
  ·have:i=n:=by omega
   subst this
   rw [List.getD_eq_getElem?_getD,List.getElem?_append_right (by omega)]
   simp only [h1,Nat.sub_self,List.getElem?_cons_zero,Option.getD_some]
   exact ha
theorem aDY {w:World} {b o:Nat} {v:Value} (h:w.cell? ⟨b,o,none⟩=some v) (h1:v.oneCell'=true):σOf w b o=some v:=by
 unfold World.cell? at h
 unfold σOf
 simp only at h
 split at h
 ·rename_i c e fz hh
  simp only [Option.isSome_none,Bool.false_eq_true,if_false] at h
  rw [hh]
  simp only [h,h1,if_true]
 ·cases h
theorem aC4 {H:Type} (B:aD3 H) {C:Codec α} [Inhabited α]:∀ (l:List α) (xs:List (DataW H×List MemPlace)),l.length=xs.length→(∀ i,i < l.length→∃ x,xs[i]? = some x∧C.size (l.getD i default)≤B.one x.1)→(l.map C.size).sum≤B.all (xs.map (·.1))
 | [],[],_,_=>by simp [B.nil]
 | [],_::_,h,_=>by simp at h
 | _::_,[],h,_=>by simp at h
 | a::l,x::xs,hl,h=>by
  have h0:=h 0 (by simp)
  obtain ⟨y,hy,h0⟩:=h0
  simp only [List.getElem?_cons_zero,Option.some.injEq] at hy
  subst hy
  have ih:=aC4 B (C:=C) l xs (by simpa using hl) fun i hi=>by
   obtain ⟨x,h1,h2⟩:=h (i+1) (by simpa using hi)
   exact ⟨x,by simpa using h1,by simpa using h2⟩
  simp only [List.map_cons,List.sum_cons,B.cons]
  have h0':C.size a≤B.one x.1:=by simpa using h0
  omega
theorem aA5 [Inhabited α] {e:TypeId} {C:Codec α} (ht:P.underlying t=some (.slice e)) (hc:P.cellsOf t=1) (he:iM P e C) (hp:0 < C.len):iM P t (eN C):=⟨aB7 C,hc,fun eH B w base spare fuel cs x h=>by
 rcases DataW.trod_slice ht h with ⟨rfl,rfl⟩ | ⟨a,len,cap,elems,rest,n,_,rfl,rfl,_,hlc,_,hlen,hel,_,_⟩
 ·refine ⟨[],fun a ha=>by simp at ha,by simpa [eN] using B.pos _,rfl,fun j hj=>?_⟩
  have:j=0:=by simp only [eN] at hj; omega
  subst this
  exact .slice none 0 0 .ro C.len (gl C.enc []) 0 0 (fun _ _=>undef) (Nat.le_refl _) (fun h=>absurd rfl h) (fun i hi=>by omega) (fun i j hi=>by omega) (fun i j hi=>by omega)
 ·have hspot0:0 < len→a.spot=none:=fun hi=>by
   have h1:=hel 0 hi
   have h2:elems[0]? = some elems[0]:=List.getElem?_eq_getElem (by omega)
   rw [h2,Option.bind_eq_some_iff] at h1
   obtain ⟨cs',h3,h4⟩:=h1
   obtain ⟨_,_,_,h7,_⟩:=he.read eH B w base spare n cs' _ h4
   have:=(World.cells?_some h3).2.2 0 (by rw [he.cells]; exact hp)
   rw [Nat.zero_mul,List.getElem?_eq_getElem (by omega)] at this
   unfold World.cell? Addr.add at this
   simp only [if_true] at this
   split at this
   ·cases hs:a.spot with
    | none=>rfl
    | some s=>simp [hs] at this
   ·cases this
  have each:∀ i,i < len→∃ b:α,C.ok b∧(∃ x,elems[i]? = some x∧C.size b≤B.one x.1)∧a.spot=none∧∀ j,j < C.len→∃ v,w.cell? ⟨a.block,a.off+i * C.len+j,none⟩=some v∧Rp (σOf w) v (nth (C.enc b) j .dead):=by
   intro i hi
   have hspot:=hspot0 (by omega)
   have h1:=hel i hi
   have h2:elems[i]? = some elems[i]:=List.getElem?_eq_getElem (by omega)
   rw [h2,Option.bind_eq_some_iff] at h1
   obtain ⟨cs',h3,h4⟩:=h1
   obtain ⟨b,h5,h6,h7,h8⟩:=he.read eH B w base spare n cs' _ h4
   rw [he.cells,zV hspot] at h3
   have h9:∀ j,j < C.len→w.cell? ⟨a.block,a.off+i * C.len+j,none⟩=cs'[j]?:=by
    intro j hj
    have:=(World.cells?_some h3).2.2 j hj
    rw [zV (by rfl)] at this
    exact this
   refine ⟨b,h5,⟨_,h2,h6⟩,hspot,fun j hj=>⟨cs'.getD j undef,?_,h8 j hj⟩⟩
   have:=h9 j hj
   rw [this,List.getD_eq_getElem?_getD,List.getElem?_eq_getElem (by omega)]
   rfl
  obtain ⟨l,h1,h2⟩:=aAF len each
  refine ⟨l,fun b hb=>?_,?_,rfl,fun j hj=>?_⟩
  ·obtain ⟨i,hi,rfl⟩:=List.mem_iff_getElem.1 hb
   have:=(h2 i (by omega)).1
   rw [List.getD_eq_getElem?_getD,List.getElem?_eq_getElem hi] at this
   exact this
  ·have:=aC4 B (C:=C) l elems (by omega) fun i hi=>(h2 i (by omega)).2.1
   simp only [eN,B.slice]
   omega
  ·have:j=0:=by simp only [eN] at hj; omega
   subst this
   have hd:∀ i,i < len→(gl C.enc l i).length=C.len:=fun i _=>he.data.len _
   simp only [eN,nth,h1]
   have ex:∀ i j,∃ v,i < len→j < C.len→w.cell? ⟨a.block,a.off+i * C.len+j,none⟩=some v∧Rp (σOf w) v (nth (C.enc (l.getD i default)) j .dead):=by
    intro i j
    by_cases hi:i < len
    ·by_cases hj:j < C.len
     ·obtain ⟨v,hv⟩:=(h2 i hi).2.2.2 j hj
      exact ⟨v,fun _ _=>hv⟩
     ·exact ⟨undef,fun _ h=>absurd h hj⟩
    ·exact ⟨undef,fun h _=>absurd h hi⟩
   let val:Nat→Nat→Value:=fun i j=>Classical.choose (ex i j)
   have hval:∀ i j,i < len→j < C.len→w.cell? ⟨a.block,a.off+i * C.len+j,none⟩=some (val i j)∧Rp (σOf w) (val i j) (nth (C.enc (l.getD i default)) j .dead):=fun i j=>Classical.choose_spec (ex i j)
   refine .slice (some a) len cap .ro C.len (gl C.enc l) a.block a.off val hlc (fun hn=>?_) hd (fun i j hi hj=>?_) (fun i j hi hj=>?_)
   ·have:=(h2 0 (by omega)).2.2.1
    cases a
    simp only at this
    subst this
    rfl
   ·obtain ⟨e1,e2⟩:=hval i j hi hj
    exact aDY e1 (e2.oneCell (he.data.nth _ hj).2)
   ·exact (hval i j hi hj).2.pure1⟩
theorem aDT {C:Codec α} {off:Nat} (h:iM P t C):wH P [(t,off)] off C:=⟨h.data,fun eH B w base spare n cs xs hl hx=>by
 match xs,hl with
 | [x],_ =>
  have h0:=hx 0 _ rfl
  simp only [List.getElem?_cons_zero] at h0
  obtain ⟨a,h1,h2,h3,h4⟩:=h.read eH B w base spare n _ x h0
  refine ⟨a,h1,by simp only [List.map_cons,List.map_nil,B.cons,B.nil]; omega,fun j hj=>?_⟩
  have:=h4 j hj
  simpa [List.getD_eq_getElem?_getD,List.getElem?_take,List.getElem?_drop,h.cells,hj] using this⟩
theorem aBP {C:Codec α} {D:Codec β} {l:List (TypeId×Nat)} {off:Nat} (h:iM P t C) (k:wH P l (off+C.len) D):wH P ((t,off)::l) off (cL C D):=⟨aDP h.data k.data,fun eH B w base spare n cs xs hl hx=>by
 match xs,hl with
 | x::xs,hl =>
  have h0:=hx 0 _ rfl
  simp only [List.getElem?_cons_zero] at h0
  obtain ⟨a,h1,h2,h3,h4⟩:=h.read eH B w base spare n _ x h0
  obtain ⟨b,k1,k2,k3⟩:=k.read eH B w base spare n cs xs (by simpa using hl) fun i f hf=>by simpa using hx (i+1) f (by simpa using hf)
  refine ⟨(a,b),⟨h1,k1⟩,by simp only [cL,List.map_cons,B.cons]; omega,fun j hj=>?_⟩
  simp only [cL] at hj ⊢
  rw [hZ,h.data.len]
  split
  ·rename_i hlt
   have:=h4 j hlt
   simpa [List.getD_eq_getElem?_getD,List.getElem?_take,List.getElem?_drop,h.cells,hlt] using this
  ·rename_i hge
   have:=k3 (j - C.len) (by omega)
   rw [show off+C.len+(j - C.len)=off+j from by omega] at this
   exact this⟩
theorem xF {C:Codec α} {fs:Array Field} (ht:P.underlying t=some (.struct fs)) (hc:P.cellsOf t=C.len) (h:wH P (fs.toList.map fun f=>(f.type,f.offset)) 0 C):iM P t (nK C):=⟨zD h.data,hc,fun eH B w base spare fuel cs x hx=>by
 obtain ⟨xs,n,rfl,rfl,hl,hlen,hf⟩:=DataW.trod_struct ht hx
 obtain ⟨a,h1,h2,h3⟩:=h.read eH B w base spare n cs xs (by simp [hlen]) fun i f hi=>by
  simp only [List.getElem?_map,Option.map_eq_some_iff] at hi
  obtain ⟨g,hg,rfl⟩:=hi
  exact hf i g (by rw [← Array.getElem?_toList]; exact hg)
 refine ⟨a,h1,by simp only [nK,B.agg]; omega,by rw [hl,hc]; rfl,fun j hj=>?_⟩
 have:=h3 j hj
 rw [Nat.zero_add] at this
 exact this⟩
theorem aHX {C:Codec α} {m:Nat} {e:TypeId} (ht:P.underlying t=some (.array m e)) (hc:P.cellsOf t=C.len) (h:wH P ((List.range m).map fun i=>(e,i * P.cellsOf e)) 0 C):iM P t (nK C):=⟨zD h.data,hc,fun eH B w base spare fuel cs x hx=>by
 obtain ⟨xs,n,rfl,rfl,hl,hlen,hf⟩:=DataW.trod_array ht hx
 obtain ⟨a,h1,h2,h3⟩:=h.read eH B w base spare n cs xs (by simp [hlen]) fun i f hi=>by
  simp only [List.getElem?_map,Option.map_eq_some_iff] at hi
  obtain ⟨g,hg,rfl⟩:=hi
  have hlt:=(List.getElem?_eq_some_iff.1 hg).1
  simp only [List.length_range] at hlt
  have:g=i:=by simpa [hlt] using hg.symm
  subst this
  exact hf g hlt
 refine ⟨a,h1,by simp only [nK,B.agg]; omega,by rw [hl,hc]; rfl,fun j hj=>?_⟩
 have:=h3 j hj
 rw [Nat.zero_add] at this
 exact this⟩
def PureV:D→Prop
 | .agg l=>∀ e∈l,e=e.pure1
 | d=>d=d.pure1
theorem PureV.names {d:D} (h:PureV d) (lo hi:Nat):d.names lo hi=false:=by
 cases d with
 | agg l=>exact aU.2 fun e he=>by rw [h e he]; exact dS _
 | tup l=>cases h
 | slice t z n g=>cases t <;> first | rfl | cases h
 | ptr i o=>cases h
 | mref i=>cases h
 | msl i z n=>cases h
 | rptr i z n e o=>cases h
 | _=>rfl
theorem tB {d:D} {k:Prop} (h:d=d.pure1) (hk:k):eA d d k:=by
 cases d with
 | int kd n =>
  have:i9 kd kd=true:=by cases kd <;> rfl
  show Br (i9 kd kd) (n=n∧k) False
  rw [this]
  exact ⟨rfl,hk⟩
 | bool b=>exact ⟨rfl,hk⟩
 | str s=>exact ⟨rfl,hk⟩
 | slice t z n g =>
  cases t with
  | ro =>
   have:Nat.beq z z=true:=Nat.beq_refl z
   show Br (true&&Nat.beq z z) (n=n∧(∀ i,i < n→DEqs (g i) (g i))∧k) False
   rw [this]
   exact ⟨rfl,fun i _=>DEqs.refl _,hk⟩
  | full=>cases h
  | own i=>cases h
 | nilp=>exact hk
 | dead=>exact hk
 | ubool=>cases h
 | agg l=>cases h
 | tup l=>cases h
 | ptr i o=>cases h
 | eptr l=>cases h
 | fn f l=>cases h
 | mp=>cases h
 | mref=>cases h
 | newp=>cases h
 | arr=>cases h
 | msl=>cases h
 | rptr=>cases h
theorem rG:∀ {l:List D} {k:Prop},(∀ d∈l,d=d.pure1)→k→mM l l k
 | [],_,_,hk=>hk
 | d::l,_,h,hk=>tB (h d (by simp)) (rG (fun e he=>h e (by simp [he])) hk)
theorem aEJ {d:D} {k:Prop} (h:PureV d) (hk:k):aFM d d k:=by
 cases d with
 | agg l=>exact rG h hk
 | _=>exact tB h hk
theorem sL:∀ {l:List D} {k:Prop},(∀ d∈l,PureV d)→k→nV l l k
 | [],_,_,hk=>hk
 | d::l,_,h,hk=>aEJ (h d (by simp)) (sL (fun e he=>h e (by simp [he])) hk)
structure aET {α:Type} (P:Program) (ts:List TypeId) (C:α→List D) (ok:α→Prop) (size:α→Nat):Prop where
 len:∀ a,(C a).length=ts.length
 pure:∀ a,∀ d∈C a,PureV d
 read:∀ {H:Type} (eH:TypeId×Value→H) (B:aD3 H) (w:World) (base b0:Nat) (spare:Nat→Bool) (r:Reach) (vs:List Value) (ds:List (DataW H)) (ps:List MemPlace),DataW.TrodAll eH P w base spare true ts vs ds ps →
  (∀ (j:Nat) t v,ts[j]? = some t→vs[j]? = some v→Value.okWide P w r b0 t v) →
  ∃ a,ok a∧size a≤B.all ds∧vs.length=ts.length∧ds.length=ts.length∧∀ F (G:Gh) tk,G.σ=σOf w→∀ j,j < ts.length→Rd F G tk (vs.getD j undef) (nth (C a) j .dead)
theorem aFZ:aET P [] (fun _:Unit=>[]) (fun _=>True) (fun _=>0):=⟨fun _=>rfl,fun _ d h=>by simp at h,fun eH B w base b0 spare r vs ds ps h _=>by
 cases vs with
 | cons=>cases ds <;> exact h.elim
 | nil =>
  cases ds with
  | cons=>exact h.elim
  | nil=>exact ⟨(),trivial,Nat.zero_le _,rfl,rfl,fun F G tk _ j hj=>by simp at hj⟩⟩
theorem vC {w:World} {r:Reach} {b0:Nat} {v:Value} (hg:bJ P t=some true) (h:Value.okWide P w r b0 t v):∃ cs,v=.agg cs:=by
 unfold bJ at hg
 unfold Value.okWide at h
 split at h
 ·obtain ⟨cs,h1,_⟩:=h; exact ⟨cs,h1⟩
 ·obtain ⟨cs,h1,_⟩:=h; exact ⟨cs,h1⟩
 ·rename_i h1 h2
  split at hg
  ·rename_i fs h3; exact absurd h3 (h1 fs)
  ·rename_i n e h3; exact absurd h3 (h2 n e)
  ·cases hg
  ·cases hg
theorem uZ {w:World} {r:Reach} {b0:Nat} {v:Value} (hg:bJ P t=some false) (h:Value.okWide P w r b0 t v):∀ cs,v≠.agg cs:=by
 intro cs hv
 subst hv
 unfold bJ at hg
 unfold Value.okWide at h
 split at h
 ·rename_i fs h3; rw [h3] at hg; cases hg
 ·rename_i n e h3; rw [h3] at hg; cases hg
 ·unfold Cell.okWide at h
  split at h <;> try simp_all
  unfold Cell.ok at h
  split at h <;> simp_all
theorem aEU {β:Type} {C:Codec α} {ts:List TypeId} {A:β→List D} {ok:β→Prop} {size:β→Nat} {g:Bool} (hg:bJ P t=some g) (h:iM P t C) (hl:g=true∨C.len=1) (k:aET P ts A ok size) :
  aET P (t::ts) (fun x:α×β=>mkv g (C.enc x.1)::A x.2) (fun x=>C.ok x.1∧ok x.2) (fun x=>C.size x.1+size x.2):=by
 refine ⟨fun x=>by simp [k.len],fun x d hd=>?_,fun eH B w base b0 spare r vs ds ps ht hok=>?_⟩
 ·simp only [List.mem_cons] at hd
  rcases hd with rfl | hd
  ·cases g with
   | true=>exact fun e he=>(h.data.pure _ e he).1
   | false =>
    have hl : C.len = 1 := by rcases hl with h | h; · cases h
                              ·exact h
    have:=(h.data.nth x.1 (j:=0) (by omega)).1
    show PureV (nth (C.enc x.1) 0 .dead)
    generalize nth (C.enc x.1) 0 .dead=e at this
    cases e <;> first | exact this | cases this
  ·exact k.pure _ d hd
 ·cases vs with
  | nil=>cases ds <;> exact ht.elim
  | cons v vs =>
   cases ds with
   | nil=>exact ht.elim
   | cons d ds =>
    obtain ⟨p,q,h1,h2,rfl⟩:=ht
    obtain ⟨fuel,h1⟩:=h1
    obtain ⟨a,a1,a2,a3,a4⟩:=h.read eH B w base spare fuel _ _ h1
    obtain ⟨b,b1,b2,b3,b4,b5⟩:=k.read eH B w base b0 spare r vs ds q h2 fun j t' v' hj hv=>hok (j+1) t' v' (by simpa using hj) (by simpa using hv)
    refine ⟨(a,b),⟨a1,b1⟩,by have a2':C.size a≤B.one d:=a2; simp only [B.cons]; omega,by simp [b3],by simp [b4],fun F G tk hσ j hj=>?_⟩
    cases j with
    | succ j=>simpa [nth] using b5 F G tk hσ j (by simpa using hj)
    | zero =>
     have hv:=hok 0 t v rfl rfl
     have cell:∀ j,j < C.len→Rc F G tk (v.cells.toList.getD j undef) (nth (C.enc a) j .dead):=fun j hj=>by
      refine .pure (hσ ▸ a4 j hj) ?_
      rw [(h.data.nth a hj).1]
      exact bT _ _
     cases g with
     | true =>
      obtain ⟨cs,rfl⟩:=vC hg hv
      refine .any (.agg cs _ ?_ fun j hj=>?_)
      ·rw [h.data.len,← a3]; simp [Value.cells]
      ·have hj':j < C.len:=by rw [← h.data.len a]; exact hj
       have:=cell j hj'
       simpa [Value.cells,Array.getD_eq_getD_getElem?,List.getD_eq_getElem?_getD] using this
     | false =>
      have hl : C.len = 1 := by rcases hl with h | h; · cases h
                                ·exact h
      have h0:=uZ hg hv
      have:=cell 0 (by omega)
      have e:v.cells.toList.getD 0 undef=v:=by
       cases v <;> first | rfl | exact absurd rfl (h0 _)
      rw [e] at this
      exact .any (.cell this)
theorem aE2 {C:Codec α} {g:Bool} (hg:bJ P t=some g) (h:iM P t C) (hl:g=true∨C.len=1):aET P [t] (fun x:α=>[mkv g (C.enc x)]) C.ok C.size:=by
 have k:=aEU hg h hl (aFZ (P:=P))
 refine ⟨fun x=>rfl,fun x d hd=>k.pure (x,()) d hd,fun eH B w base b0 spare r vs ds ps ht hok=>?_⟩
 obtain ⟨a,h1,h2,h3,h4,h5⟩:=k.read eH B w base b0 spare r vs ds ps ht hok
 exact ⟨a.1,h1.1,by have h2':C.size a.1+0≤B.all ds:=h2; omega,h3,h4,h5⟩
end
end Go.Abs
namespace Go.Abs
open Go Go.RowKit Go.ChangeShapes
theorem aIT {ft:FT} {F:Nat→FuncId} (h:(ft.all fun x=>Nat.beq (F x.2) x.1)=true):∀ f j,ag ft f=some j→F j=f:=fun f j hj =>
 Nat.eq_of_beq_eq_true (List.all_eq_true.1 h (f,j) (mO hj))
section
variable {H:Type} {eH:TypeId×Value→H} {P:Program}
theorem nS {W W':World} (hl:laidOutB P=true) (hb:Below W.heap.size W W'):∀ {ts:List TypeId} {vs:List Value} {ds:List (DataW H)} {ps:List MemPlace},(∀ t∈ts,P.readableRec t=true∧t < P.types.size) →
  DataW.TrodAll eH P W 0 (fun _=>true) true ts vs ds ps→DataW.TrodAll eH P W' 0 (fun b=>decide (b < W.heap.size)) true ts vs ds ps
 | [],[],[],_,_,h=>h
 | t::ts,v::vs,d::ds,_,hr,⟨p,q,h1,h2,h3⟩ =>
  ⟨p,q,Below.trod hl (hr t (by simp)).1 (hr t (by simp)).2 h1 hb (by obtain ⟨m,hm⟩:=h1; exact DataW.trod_lt m _ _ _ hm),nS hl hb (fun t ht=>hr t (by simp [ht])) h2,h3⟩
 | [],_::_,_,_,_,h=>h.elim
 | [],[],_::_,_,_,h=>h.elim
 | _::_,[],_,_,_,h=>h.elim
 | _::_,_::_,[],_,_,h=>h.elim
theorem x5 (B:aD3 H) {fn:Func} {f:FuncId} {F:Nat→FuncId} {α:Type} {A:α→List D} {ok pre:α→Prop} {size:α→Nat} {N:Nat} (hs:bE P F f (FnC A noB pre (fun _=>[.bool true]) noB))
  (hA:aET P fn.params.toList A ok size) (hpre:∀ a,ok a→size a≤N→pre a) (hlaid:laidOutB P=true) (hread:∀ t∈fn.params.toList,P.readableRec t=true∧t < P.types.size) {rt:TypeId} (hres:fn.resultTypes=#[rt]) (hrt:P.underlying rt=some .bool)
  {s:ChangeSpec} (hv:s.vars=[]) (hfn:∀ ds:List (DataW H),ds.length=fn.params.toList.length→s.fn H ds={ results:=[.lit (.bool true)],args:=ds }) {W:World} {base:Nat} {args:Array Value} {ds gs:List (DataW H)} {before:List MemPlace}
  (hval:∀ (j:Nat) t v,fn.params[j]? = some t→args[j]? = some v→Value.okWide P W .any base t v) (hW:DataW.Whole eH P fn.params.toList s.vars false W args.toList ds gs before) (hk:B.all (ds++gs)≤N) :
  Calls P f args W fun e W'=>∃ v,e=.returned v∧s.post eH P fn false true false false W args v W':=by
 have hW':=hW
 obtain ⟨p,q,hA0,hV,rfl,hfz,hnd⟩:=hW
 rw [hv] at hV
 obtain ⟨rfl,rfl⟩:=trodVars_none hV
 rw [List.append_nil] at hk
 obtain ⟨a,a1,a2,a3,a4,a5⟩:=hA.read eH B W 0 base (fun _=>true) .any args.toList ds p hA0 fun j t v hj hv=>hval j t v (by rw [← Array.getElem?_toList]; exact hj) (by rw [← Array.getElem?_toList]; exact hv)
 have cp:CPre F ⟨σOf W,fun _ _=>none⟩ W [] args (A a) []:=by
  refine ⟨fun b o v h=>?_,by rw [← Array.length_toList,a3,hA.len],fun j hj=>?_,fun j hj h=>?_,rfl,List.nodup_nil,fun k hk=>by simp at hk⟩
  ·have h:σOf W b o=some v:=h
   unfold σOf at h
   split at h
   ·rename_i c e fz hh
    split at h
    ·rename_i u hu
     split at h
     ·rename_i h1
      cases h
      exact ⟨h1,c,e,fz,hh,hu⟩
     ·cases h
    ·cases h
   ·cases h
  ·have:=a5 F (G0 ⟨σOf W,fun _ _=>none⟩ []) (fun _=>none) rfl j (by rw [← hA.len a]; exact hj)
   simpa [Array.getD_eq_getD_getElem?,List.getD_eq_getElem?_getD] using this
  ·rw [cP _ _ hj]
   exact (hA.pure a _ (List.getElem_mem hj)).names _ _
 have hfnK:FnC A noB pre (fun _=>[.bool true]) noB (A a) [] (fun rs _=>rs=[.bool true]):=⟨a,sL (hA.pure a) ⟨hpre a a1 (by omega),rfl⟩⟩
 refine (hs.calls ⟨σOf W,fun _ _=>none⟩ W [] args (A a) [] _ cp hfnK).mono fun e W' ⟨vs,rs,bs',σ',he,hrs,hp⟩=>?_
 subst hrs
 have h1:vs.size=1:=hp.size
 have h2:=hp.res 0 (by simp)
 have h3:vs[0]'(by omega)=.bool true:=by
  have h4:Rp σ' (vs.getD 0 undef) (.bool true):=h2
  rw [Array.getD_eq_getD_getElem?,Array.getElem?_eq_getElem (by omega)] at h4
  simp only [Option.getD_some] at h4
  generalize vs[0]'(by omega)=v at h4 ⊢
  cases h4
  rfl
 have h5:eE vs=.bool true:=by
  unfold eE
  rw [dif_pos h1,h3]
 rw [h5] at he
 subst he
 have bel:Below W.heap.size W W':=⟨hp.os,hp.tape,hp.output,hp.base,fun k hk=>hp.keep k hk (by simp)⟩
 have hds:=hfn ds a4
 refine ⟨.bool true,rfl,ds,[],p++[],[],p,[],hW',?_,?_,?_,bel.frame _,fun h=>by cases h⟩
 ·rw [List.append_nil,hds,hres]
  exact trodAll_mk1 (shut_bool hrt _)
 ·rw [List.append_nil,hds]
  exact nS hlaid bel hread hA0
 ·rw [List.append_nil,hds,hv]
  exact rfl
end
section
variable {P:Program} {F:Nat→FuncId}
theorem CPost.same {σ:Og} {w:World} {ext:List Nat} {vals:Array Value} {ds:List D} (h:CPre F σ w ext vals ds []) {v:Value} {d:D} (hr:Rp σ v d.pure1) (hd:∀ l,d≠.agg l) (ht:∀ q z n g,d≠.slice (.own q) z n g) (hn:∀ l,d≠.newp l) (ha:∀ f z n g,d≠.arr f z n g):CPost σ w ext w σ.σ [d] [] #[v]:=by
 refine ⟨h.stab,SgLe.refl _,fun _ _ _=>rfl,rfl,rfl,rfl,Nat.le_refl _,fun _ _ _=>rfl,fun k f z n g hk=>by simp at hk,fun k hk=>by simp at hk,rfl,fun j hj=>?_,fun i j b hi hj _ _=>?_⟩
 ·have:j=0:=by simpa using hj
  subst this
  show rL σ w w.heap.size v d
  cases d with
  | agg l=>exact absurd rfl (hd l)
  | slice t z n g=>cases t with
   | own q=>exact absurd rfl (ht q z n g)
   | _=>exact hr
  | newp l=>exact absurd rfl (hn l)
  | arr f z n g=>exact absurd rfl (ha f z n g)
  | _=>exact hr
 ·simp at hi hj
  omega
def ixB (a:ByteArray×Int):Int:=Lib.indexByte a.1.data.toList a.2.toNat.toUInt8
theorem vF {f : FuncId} {fn : Func} (hf : P.funcs[f]? = some fn) (hname : (fn.name == "runtime.NumGoroutine") = false) (hb : fn.body.isNone = true) (hn : Extern.findNext fn = none) (he : Extern.find fn = some Extern.BytealgIndexByte.indexByte)
  {pre:ByteArray×Int→Prop}:aHS P F f (FnC (fun a=>[.str a.1,.int .u8 a.2]) (fun _=>[]) pre (fun a=>[.int .i64 (ixB a)]) (fun _=>[])):=by
 refine ⟨fun ds bs K K' hK hh=>?_,fun ds bs K hh=>?_,fun σ w ext vals ds bs K cp hh=>?_⟩
 ·obtain ⟨a,hh⟩:=hh
  exact ⟨a,dT (fN (iK fun ⟨h1,h2⟩=>⟨h1,hK _ _ h2⟩)) hh⟩
 ·obtain ⟨a,hh⟩:=hh
  exact ⟨_,_,(eX (dE (bZ hh).2).2).2.2⟩
 ·obtain ⟨a,hh⟩:=hh
  obtain ⟨h1,h2⟩:=bZ hh
  obtain ⟨h3,h4⟩:=dE h2
  obtain ⟨h5,h6,h7⟩:=eX h4
  have cp':=cp.deq h3 h5 h1
  obtain ⟨s,c⟩:=a
  have e0:=(cp'.args 0 (by simp)).str_inv
  have e1:=(cp'.args 1 (by simp)).int_inv
  have hv:vals=#[.string s,.int .u8 c]:=by
   apply Array.ext
   ·exact cp'.size
   ·intro i hi1 hi2
    have:i=0∨i=1:=by simp at hi2; omega
    rcases this with rfl | rfl
    ·simpa [Array.getD_eq_getD_getElem?,hi1] using e0
    ·simpa [Array.getD_eq_getD_getElem?,hi1] using e1
  subst hv
  refine ⟨w,#[.int .i64 (ixB (s,c))],_,_,σ.σ,?_,h7,CPost.same cp' (.int _ _) (fun _=>by simp) (fun _ _ _ _=>by simp) (fun _=>by simp) (fun _ _ _ _=>by simp)⟩
  rw [run_callFunc_extern hf hname hb hn he,Lib.run_indexByteString]
  rfl
end
end Go.Abs
