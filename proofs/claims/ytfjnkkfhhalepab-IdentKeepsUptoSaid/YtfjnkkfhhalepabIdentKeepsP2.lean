/- The abstract machine and its soundness. -/
import Derived.Orders
import Derived.Scope
import GoSem.Claim
import Derived.Test.YtfjnkkfhhalepabIdentKeepsP1
set_option linter.unusedVariables false
set_option linter.unusedSimpArgs false
namespace Go.Abs
open Go
def FlatS:D→Prop
 | .agg l=>∀ e∈l,Cell e
 | .tup l=>∀ e∈l,match e with
  | .agg c=>∀ x∈c,Cell x∧x=x.pure1
  | .tup _=>False
  | _=>True
 | _=>True
structure Tidy (lo hi:Nat) (s:St):Prop where
 fr:∀ d∈s.fr,d.names lo hi=false∧FlatS d
 hp:∀ i f cs,s.hp i=some (f,cs)→¬(lo≤i∧i < hi)∧names lo hi cs=false∧∀ e∈cs,Cell e
 tk:∀ i e,s.tk i=some e→¬(lo≤i∧i < hi)
section
variable {P:Program} {F:Nat→FuncId} {B np:Nat} {w0 w w':World} {ext:List Nat} {σ0:Og} {G G':Gh} {s:St} {a:Act} {ft:FT} {hp:Nat→Option (Bool×List D)} {tk:Nat→Option (Nat×Nat)} {lo hi id:Nat} {E:Env}
theorem FlatS.flatD {d:D} (h:FlatS d):zQ lo hi d:=by
 cases d with
 | agg l=>exact h
 | tup l =>
  intro e he
  have:=h e he
  cases e with
  | agg c=>exact aU.2 fun x hx=>by rw [(this x hx).2]; exact dS _
  | tup c=>exact this
  | _=>trivial
 | _=>trivial
theorem Cell.flat {d:D} (h:Cell d):FlatS d:=by cases d <;> first | trivial | exact h.elim
theorem Rd.flatS {v:Value} {d:D} (h:Rd F G tk v d):FlatS d:=by
 cases h with
 | any h =>
  cases h with
  | cell h=>exact h.cell.flat
  | agg cs l h1 h2 =>
   intro e he
   obtain ⟨j,hj,rfl⟩:=List.mem_iff_getElem.1 he
   have:=(h2 j hj).cell
   rw [cP l _ hj] at this
   exact this
 | tup vs l h1 h2 =>
  intro e he
  obtain ⟨j,hj,rfl⟩:=List.mem_iff_getElem.1 he
  have:=h2 j hj
  rw [cP l _ hj] at this
  generalize l[j]=e at this
  generalize vs.getD j undef=v at this
  cases this with
  | cell h =>
   have:=h.cell
   cases e <;> first | trivial | exact this.elim
  | agg cs c h3 h4 =>
   intro x hx
   obtain ⟨q,hq,rfl⟩:=List.mem_iff_getElem.1 hx
   have:=h4 q hq
   rw [cP c _ hq] at this
   exact ⟨this.1.cell,this.2⟩
 | mref id=>trivial
 | msl _ _ _ _ _ _ _ _=>trivial
 | rptr _ _ _ _ _ _ _ _=>trivial
theorem Rel.tidy (r:Rel F B np w0 ext σ0 G s a w) (h:Clean lo hi s):Tidy lo hi s:=by
 refine ⟨fun d hd=>?_,aHU r h,h.tk⟩
 obtain ⟨j,hj,rfl⟩:=List.mem_iff_getElem.1 hd
 have h1:=h.fr j hj
 have h2:=(r.slots j hj).flatS
 rw [cP s.fr _ hj] at h1 h2
 exact ⟨h1,h2⟩
theorem Tidy.clean (h:Tidy lo hi s):Clean lo hi s :=
 ⟨fun i hi'=>by rw [cP s.fr _ hi']; exact (h.fr _ (List.getElem_mem hi')).1,fun i f cs hx=>⟨(h.hp i f cs hx).1,(h.hp i f cs hx).2.1⟩,h.tk⟩
theorem kQ {dst:Option Nat} {v:D} {fr:List D} {d:D} (h:d∈eM dst v fr):d=v∨d∈fr:=by
 cases dst with
 | none=>exact .inr h
 | some i=>exact yF h
theorem Tidy.after (h:Tidy lo hi s) {v:D} {u:Upd} (hv:v.names lo hi=false∧FlatS v) (hh:∀ x∈u.h,¬(lo≤x.1∧x.1 < hi)∧names lo hi x.2.2=false∧∀ e∈x.2.2,Cell e) (ht:∀ x∈u.t,¬(lo≤x.1∧x.1 < hi)) (dst:Option Nat) :
  Tidy lo hi (s.next dst v u):=by
 refine ⟨fun d hd=>?_,fun i f cs hx=>?_,fun i e hx=>?_⟩
 ·rcases kQ hd with rfl | hd
  ·exact hv
  ·exact h.fr d hd
 ·rcases jY hx with h1 | h1
  ·exact h.hp i f cs h1
  ·exact hh _ h1
 ·rcases r9 hx with h1 | h1
  ·exact h.tk i e h1
  ·exact ht _ h1
theorem sX (h:Tidy lo hi s) {xs:List AX} (hx:xs.all mG=true):∀ d∈evs s.fr xs,d.names lo hi=false∧FlatS d:=by
 intro d hd
 obtain ⟨x,hx',rfl⟩:=yO hd
 have hx:=List.all_eq_true.1 hx x hx'
 cases x with
 | t i =>
  simp only [AX.ev]
  rcases pF (l:=s.fr) (j:=i) with h1 | h1
  ·exact h.fr _ h1
  ·rw [h1]; exact ⟨rfl,trivial⟩
 | c d =>
  refine ⟨(oC (lo:=lo) (hi:=hi) hx).1,?_⟩
  have h1:=(oC (lo:=lo) (hi:=hi) hx).2
  cases d with
  | agg l=>exact h1
  | tup l=>cases hx
  | _=>trivial
theorem d5 (l:List D):∀ e∈aJ l,Cell e:=by
 intro e he
 obtain ⟨x,_,rfl⟩:=fM he
 exact dZ x
theorem aFR {d:D} (h:Cell d):Cell d.ro1:=by
 cases d with
 | slice t z n g=>cases t <;> trivial
 | _=>first | trivial | exact h.elim
theorem aE0 {l:List D} (h:∀ e∈l,Cell e):∀ e∈ros l,Cell e:=by
 intro e he
 obtain ⟨x,hx,rfl⟩:=aC5 he
 exact aFR (h x hx)
theorem eR {g:Bool} {n:Nat} {l:List D} {v:D} {u:Upd} (h:(bS g n l).holds v u) (h2:∀ e∈l,Cell e):FlatS v:=by
 unfold bS at h
 cases hb:Nat.ble n l.length with
 | false=>rw [hb] at h; exact (aD h).elim
 | true =>
  rw [hb] at h
  obtain ⟨rfl,rfl⟩:=aE h
  cases g with
  | true=>exact fun e he=>h2 e (List.mem_of_mem_take he)
  | false =>
   simp only [mkv,cond_false]
   rcases pF (l:=l.take n) (j:=0) with h4 | h4
   ·exact (h2 _ (List.mem_of_mem_take h4)).flat
   ·rw [h4]; trivial
theorem wW:∀ {qs:List (Nat×Nat)} {xs cells l:List D},fill cells qs xs=some l→(∀ e∈cells,Cell e)→∀ e∈l,Cell e
 | [],[],cells,l,h,hc=>by cases h; exact hc
 | [],_::_,_,_,h,_=>by simp [fill] at h
 | _::_,[],_,_,h,_=>by simp [fill] at h
 | (off,size)::qs,x::xs,cells,l,h,hc=>by
  simp only [fill] at h
  cases hb:(aG x.cells&&Nat.beq x.cells.length size&&Nat.ble (off+size) cells.length) with
  | false=>rw [hb] at h; cases h
  | true =>
   rw [hb] at h
   simp only [Bool.and_eq_true] at hb
   refine wW h fun e he=>?_
   rcases k8 he with he | he
   ·exact hc e he
   ·exact iR hb.1.1 e he
theorem s5 {d:D} (h:tD d=true):Cell d:=by cases d <;> first | trivial | cases h
theorem lQ:∀ (l:List D) (ds:List D) (u:List (Nat×Bool×List D)),freeze np hp l=some (ds,u)→∀ x∈u,∀ e∈x.2.2,Cell e
 | [],ds,u,h,x,hx=>by simp only [freeze,Option.some.injEq,Prod.mk.injEq] at h; rw [← h.2] at hx; simp at hx
 | d::l,ds,u,h,x,hx=>by
  have other:(match freeze np hp l with | some (ds,u)=>bif aG [d] then some (d.pure::ds,u) else none | none=>none)=some (ds,u)→∀ e∈x.2.2,Cell e:=by
   intro h
   cases hf:freeze np hp l with
   | none=>simp [hf] at h
   | some p =>
    obtain ⟨ds',u'⟩:=p
    simp only [hf] at h
    cases hs:aG [d] with
    | false=>rw [hs] at h; cases h
    | true =>
     rw [hs] at h
     cases h
     exact lQ l _ _ hf x hx
  cases d with
  | ptr i off =>
   simp only [freeze] at h
   cases hi':hp i with
   | none=>simp [hi'] at h
   | some e =>
    obtain ⟨f,cs⟩:=e
    cases hf:freeze np hp l with
    | none=>simp [hi',hf] at h
    | some p =>
     obtain ⟨ds',u'⟩:=p
     simp only [hi',hf] at h
     cases hb:((f || aG cs)&&Nat.ble np i) with
     | false=>rw [hb] at h; cases h
     | true =>
      rw [hb] at h
      cases h
      simp only [List.mem_cons] at hx
      rcases hx with rfl | hx
      ·exact d5 _
      ·exact lQ l _ _ hf x hx
  | fn f c=>simp [freeze] at h
  | _=>exact other h
theorem aGJ {op:BinOp} {x y v:D} {u:Upd} (h:(bin op x y).holds v u):Cell v:=by
 unfold bin at h
 split at h
 ·rename_i k a k' b
  cases hs:nB op with
  | true =>
   rw [hs] at h
   simp only [cond_true] at h
   unfold sG at h
   split at h
   ·obtain ⟨_,rfl,rfl⟩:=aM h; trivial
   ·obtain ⟨_,rfl,rfl⟩:=aM h; trivial
   ·exact (aD h).elim
  | false =>
   rw [hs] at h
   simp only [cond_false] at h
   cases hk:i9 k k' with
   | false=>rw [hk] at h; exact (aD h).elim
   | true =>
    rw [hk] at h
    simp only [cond_true] at h
    unfold yR at h
    split at h
    all_goals first
     | exact (aD h).elim
     | (obtain ⟨rfl,rfl⟩:=aE h; trivial)
     | (obtain ⟨_,rfl,rfl⟩:=aM h; trivial)
 ·unfold xU at h
  split at h
  all_goals first
   | exact (aD h).elim
   | (obtain ⟨rfl,rfl⟩:=aE h; trivial)
   | (obtain ⟨_,rfl,rfl⟩:=aM h; trivial)
 ·exact (aD h).elim
theorem q8 {sz bytes:Nat} {t:Tag} {z n:Nat} {g:Nat→List D} {m:Nat} {k:Nat→List D} {v:D} {u:Upd} (h:(cU id sz bytes tk t z n g m k).holds v u):Cell v∧u.h=[]:=by
 unfold cU at h
 cases hb:Nat.beq z sz with
 | false=>rw [hb] at h; exact (aD h).elim
 | true =>
  rw [hb] at h
  simp only [Bool.not_true,cond_false] at h
  split at h
  ·split at h
   ·rename_i z' n' hi'
    cases hb2:Nat.beq z' sz with
    | false=>rw [hb2] at h; exact (aD h).elim
    | true =>
     rw [hb2] at h
     obtain ⟨_,rfl,rfl⟩:=aW h
     exact ⟨trivial,rfl⟩
   ·exact (aD h).elim
  ·obtain ⟨_,rfl,rfl⟩:=aW h
   exact ⟨trivial,rfl⟩
  ·exact (aD h).elim
theorem aE1 {o:AOp} {args:List D} {v:D} {u:Upd} (h:(aT o id hp tk args).holds v u) (ho:jE o=true) (ha:∀ d∈args,FlatS d) (hh:∀ i f cs,hp i=some (f,cs)→∀ e∈cs,Cell e):FlatS v∧∀ x∈u.h,∀ e∈x.2.2,Cell e:=by
 have none':∀ x∈Upd.none.h,∀ e∈x.2.2,Cell e:=fun x hx=>by simp [Upd.none] at hx
 unfold aT at h
 split at h
 ·obtain ⟨rfl,rfl⟩:=aE h; exact ⟨ha _ (by simp),none'⟩
 ·rename_i c x y
  obtain ⟨rfl,rfl⟩:=aE h
  refine ⟨?_,none'⟩
  cases c
  ·exact ha y (by simp)
  ·exact ha x (by simp)
 ·rename_i cells
  cases hs:aG cells with
  | false=>rw [hs] at h; exact (aD h).elim
  | true =>
   rw [hs] at h
   obtain ⟨rfl,rfl⟩:=a6 h
   refine ⟨trivial,fun x hx=>?_⟩
   simp only [List.mem_singleton] at hx
   subst hx
   intro e he
   obtain ⟨j,hj,rfl⟩:=List.mem_iff_getElem.1 he
   have h1:=m8 cells (id+1) j
   rw [cP _ _ hj] at h1
   rw [h1]
   rw [dX] at hj
   have h2:=iR hs _ (List.getElem_mem hj)
   rw [cP cells _ hj]
   generalize cells[j]=d at h2
   cases d with
   | slice t z n g=>cases t <;> trivial
   | _=>first | trivial | exact h2.elim
 ·rename_i x
  cases hs:aG x.cells with
  | false=>rw [hs] at h; exact (aD h).elim
  | true =>
   rw [hs] at h
   obtain ⟨rfl,rfl⟩:=a6 h
   refine ⟨trivial,fun y hy=>?_⟩
   simp only [List.mem_singleton] at hy
   subst hy
   exact iR hs
 ·split at h
  ·rename_i f cs hi'
   replace h:=(bF h).2
   have h1:=eR h (fun e he=>hh _ _ _ hi' e (List.mem_of_mem_drop he))
   obtain ⟨_,rfl⟩:=bY (lo:=0) (hi:=0) h (aU.2 fun d _=>bG d) (fun e he=>hh _ _ _ hi' e (List.mem_of_mem_drop he))
   exact ⟨h1,none'⟩
  ·exact (aD h).elim
 ·have h1:=eR h (d5 _)
  obtain ⟨_,rfl⟩:=bY (lo:=0) (hi:=0) h (aU.2 fun d _=>bG d) (d5 _)
  exact ⟨h1,none'⟩
 ·rename_i n i off x
  split at h
  ·rename_i cs hi'
   replace h:=(cO h).2
   cases hb:(aG x.cells&&Nat.beq x.cells.length n&&Nat.ble (off+n) cs.length) with
   | false=>rw [hb] at h; exact (aD h).elim
   | true =>
    rw [hb] at h
    obtain ⟨rfl,rfl⟩:=a6 h
    simp only [Bool.and_eq_true] at hb
    refine ⟨trivial,fun y hy=>?_⟩
    simp only [List.mem_singleton] at hy
    subst hy
    intro e he
    rcases k8 he with he | he
    ·exact hh _ _ _ hi' e he
    ·exact iR hb.1.1 e he
  ·exact (aD h).elim
 ·obtain ⟨rfl,rfl⟩:=aE h; exact ⟨trivial,none'⟩
 ·obtain ⟨rfl,rfl⟩:=aE h; exact ⟨trivial,none'⟩
 ·rename_i g off n l
  have h0:∀ e∈l.drop off,Cell e:=fun e he=>ha (.agg l) (by simp) e (List.mem_of_mem_drop he)
  have h1:=eR h h0
  obtain ⟨_,rfl⟩:=bY (lo:=0) (hi:=0) h (aU.2 fun d _=>bG d) h0
  exact ⟨h1,none'⟩
 ·rename_i sz t z n g k i
  cases hb:Nat.beq z sz with
  | false=>rw [hb] at h; exact (aD h).elim
  | true =>
   rw [hb] at h
   obtain ⟨_,rfl,rfl⟩:=aM h
   exact ⟨trivial,none'⟩
 ·obtain ⟨_,rfl,rfl⟩:=aM h; exact ⟨trivial,none'⟩
 ·obtain ⟨_,rfl,rfl⟩:=aM h; exact ⟨trivial,none'⟩
 ·obtain ⟨_,rfl,rfl⟩:=aM h; exact ⟨trivial,none'⟩
 ·rename_i g sz len l k i
  have h0:∀ e∈l.drop (i.toNat * sz),Cell e:=fun e he=>ha (.agg l) (by simp) e (List.mem_of_mem_drop he)
  cases hl:bS g sz (l.drop (i.toNat * sz)) with
  | ok v' u' =>
   rw [hl] at h
   obtain ⟨_,rfl,rfl⟩:=aM h
   have hl':(bS g sz (l.drop (i.toNat * sz))).holds v u:=.inl hl
   have h1:=eR hl' h0
   obtain ⟨_,rfl⟩:=bY (lo:=0) (hi:=0) hl' (aU.2 fun d _=>bG d) h0
   exact ⟨h1,none'⟩
  | bad=>rw [hl] at h; exact (aD h).elim
  | ask p v' u'=>rw [hl] at h; exact (aD h).elim
  | chk p v' u'=>rw [hl] at h; exact (aD h).elim
  | alt p v' u' v2 u2=>rw [hl] at h; exact (aD h).elim
 ·rename_i zero parts
  cases hf:fill zero parts args with
  | none=>rw [hf] at h; exact (aD h).elim
  | some l =>
   rw [hf] at h
   obtain ⟨rfl,rfl⟩:=aE h
   simp only [jE,List.all_eq_true] at ho
   exact ⟨aE0 (wW hf fun e he=>s5 (ho e he)),none'⟩
 ·rename_i sz len zero parts
  cases hf:fill (rep len zero) parts args with
  | none=>rw [hf] at h; exact (aD h).elim
  | some l =>
   rw [hf] at h
   simp only at h
   cases hb:(Nat.beq zero.length sz&&aG l) with
   | false=>rw [hb] at h; exact (aD h).elim
   | true =>
    rw [hb] at h
    obtain ⟨rfl,rfl⟩:=aE h
    exact ⟨trivial,none'⟩
 ·rename_i sz lo' hi' mx t z n g r
  cases hb:Nat.beq z sz with
  | false=>rw [hb] at h; exact (aD h).elim
  | true =>
   rw [hb] at h
   simp only [Bool.not_true,cond_false] at h
   split at h
   ·split at h
    ·split at h
     ·obtain ⟨_,rfl,rfl⟩:=aM h
      exact ⟨trivial,none'⟩
     ·exact (aD h).elim
    ·exact (aD h).elim
   ·exact (aD h).elim
 ·split at h
  ·split at h
   ·obtain ⟨_,rfl,rfl⟩:=aM h
    exact ⟨trivial,none'⟩
   ·exact (aD h).elim
  ·exact (aD h).elim
 ·rename_i sz len np' i off
  split at h
  ·rename_i f cs hi'
   replace h:=(cO h).2
   cases hb:(Nat.ble (off+len * sz) cs.length&&Nat.ble np' i) with
   | false=>rw [hb] at h; exact (aD h).elim
   | true =>
    rw [hb] at h
    obtain ⟨rfl,rfl⟩:=a6 h
    refine ⟨trivial,fun y hy=>?_⟩
    simp only [List.mem_singleton] at hy
    subst hy
    exact d5 _
  ·exact (aD h).elim
 ·rename_i sz len np' l
  cases hb:Nat.ble (len * sz) l.length with
  | false=>rw [hb] at h; exact (aD h).elim
  | true =>
   rw [hb] at h
   obtain ⟨rfl,rfl⟩:=aE h
   exact ⟨trivial,none'⟩
 ·obtain ⟨rfl,rfl⟩:=aE h; exact ⟨trivial,none'⟩
 ·obtain ⟨rfl,rfl⟩:=aE h; exact ⟨trivial,none'⟩
 ·rename_i sz bytes t z n g t' z' m g'
  cases hb:Nat.beq z' sz with
  | false=>rw [hb] at h; exact (aD h).elim
  | true =>
   rw [hb] at h
   obtain ⟨h1,h2⟩:=q8 h
   exact ⟨h1.flat,by rw [h2]; simp⟩
 ·rename_i sz bytes t z n g b
  cases hb:Nat.beq sz 1 with
  | false=>rw [hb] at h; exact (aD h).elim
  | true =>
   rw [hb] at h
   obtain ⟨h1,h2⟩:=q8 h
   exact ⟨h1.flat,by rw [h2]; simp⟩
 ·have h1:=aGJ h
  obtain ⟨_,rfl⟩:=qJ (lo:=0) (hi:=0) h
  exact ⟨h1.flat,none'⟩
 ·obtain ⟨rfl,rfl⟩:=aE h; exact ⟨trivial,none'⟩
 ·split at h
  ·obtain ⟨rfl,rfl⟩:=aE h; exact ⟨trivial,none'⟩
  ·exact (aD h).elim
 ·unfold un at h
  split at h
  ·obtain ⟨rfl,rfl⟩:=aE h; exact ⟨trivial,none'⟩
  ·obtain ⟨rfl,rfl⟩:=aE h; exact ⟨trivial,none'⟩
  ·exact (aD h).elim
 ·obtain ⟨rfl,rfl⟩:=aE h; exact ⟨trivial,none'⟩
 ·obtain ⟨rfl,rfl⟩:=aE h; exact ⟨trivial,none'⟩
 ·obtain ⟨_,rfl,rfl⟩:=aW h; exact ⟨trivial,none'⟩
 ·obtain ⟨rfl,rfl⟩:=aE h; exact ⟨trivial,none'⟩
 ·obtain ⟨rfl,rfl⟩:=aE h; exact ⟨trivial,none'⟩
 ·rename_i f np'
  cases hf:freeze np' hp args with
  | none=>rw [hf] at h; exact (aD h).elim
  | some p =>
   obtain ⟨ds,us⟩:=p
   rw [hf] at h
   obtain ⟨rfl,rfl⟩:=a6 h
   exact ⟨trivial,lQ args ds us hf⟩
 ·rename_i i l
  have h1:=ha (.tup l) (by simp)
  cases hb:Nat.blt i l.length with
  | false=>rw [hb] at h; exact (aD h).elim
  | true =>
   rw [hb] at h
   obtain ⟨rfl,rfl⟩:=aE h
   refine ⟨?_,none'⟩
   rcases pF (l:=l) (j:=i) with h2 | h2
   ·have h4:=h1 _ h2
    generalize nth l i .dead=e at h4
    cases e with
    | agg c=>exact fun x hx=>(h4 x hx).1
    | tup c=>exact h4.elim
    | _=>trivial
   ·rw [h2]; trivial
 ·rename_i zero bytes k l k' c
  cases hs:aG zero with
  | false=>rw [hs] at h; exact (aD h).elim
  | true =>
   rw [hs] at h
   cases hrow:Nat.ble 1000000 id with
   | true =>
    rw [hrow] at h
    obtain ⟨_,rfl,rfl⟩:=aW h
    refine ⟨trivial,fun y hy=>?_⟩
    simp only [List.mem_singleton] at hy
    subst hy
    intro e he
    simp only [List.mem_cons,List.not_mem_nil,or_false] at he
    rcases he with rfl | rfl <;> trivial
   | false =>
    rw [hrow] at h
    obtain ⟨_,rfl,rfl⟩:=aW h
    exact ⟨trivial,fun y hy=>by simp at hy⟩
 ·obtain ⟨rfl,rfl⟩:=aE h; exact ⟨trivial,none'⟩
 ·obtain ⟨rfl,rfl⟩:=aE h; exact ⟨trivial,none'⟩
 ·obtain ⟨rfl,rfl⟩:=aE h; exact ⟨trivial,none'⟩
 ·obtain ⟨rfl,rfl⟩:=a6 h; exact ⟨trivial,fun y hy=>by simp at hy⟩
 ·obtain ⟨rfl,rfl⟩:=a6 h
  refine ⟨trivial,fun y hy=>?_⟩
  simp only [List.mem_singleton] at hy
  subst hy
  intro e he
  simp only [List.mem_cons,List.not_mem_nil,or_false] at he
  rcases he with rfl | rfl | rfl <;> trivial
 ·rename_i i
  unfold oY at h
  split at h
  ·rename_i s p hi'
   rcases bW h with ⟨_,rfl,rfl⟩ | ⟨_,rfl,rfl⟩
   ·refine ⟨fun e he=>?_,fun y hy=>?_⟩
    ·simp only [List.mem_cons,List.not_mem_nil,or_false] at he
     rcases he with rfl | rfl | rfl <;> trivial
    ·simp only [List.mem_singleton] at hy
     subst hy
     intro e he
     simp only [List.mem_cons,List.not_mem_nil,or_false] at he
     rcases he with rfl | rfl | rfl <;> trivial
   ·refine ⟨fun e he=>?_,none'⟩
    simp only [List.mem_cons,List.not_mem_nil,or_false] at he
    rcases he with rfl
    trivial
  ·exact (aD h).elim
 ·rename_i va lin
  obtain ⟨rfl,rfl⟩:=a6 h
  refine ⟨trivial,fun y hy=>?_⟩
  simp only [List.mem_singleton] at hy
  subst hy
  intro e he
  simp only [List.mem_cons,List.not_mem_nil,or_false] at he
  rcases he with rfl | rfl
  ·cases va <;> cases lin <;> trivial
  ·trivial
 ·unfold sC at h
  split at h
  ·obtain ⟨rfl,rfl⟩:=aE h; exact ⟨trivial,none'⟩
  ·exact (aD h).elim
 ·unfold tY at h
  split at h
  ·obtain ⟨_,h⟩:=bF h
   obtain ⟨rfl,rfl⟩:=a6 h
   refine ⟨trivial,fun y hy=>?_⟩
   simp only [List.mem_singleton] at hy
   subst hy
   intro e he
   simp only [List.mem_cons,List.not_mem_nil,or_false] at he
   rcases he with rfl | rfl <;> trivial
  ·obtain ⟨_,h⟩:=bF h
   split at h
   ·obtain ⟨_,rfl,rfl⟩:=aW h
    refine ⟨trivial,fun y hy=>?_⟩
    simp only [List.mem_singleton] at hy
    subst hy
    intro e he
    simp only [List.mem_cons,List.not_mem_nil,or_false] at he
    rcases he with rfl | rfl <;> trivial
   ·exact (aD h).elim
  ·exact (aD h).elim
 ·rename_i comma va zero i k
  unfold t6 at h
  split at h
  ·rename_i va' n ks vs hi'
   obtain ⟨hva,h⟩:=bF h
   have hva:va'=va:=by cases va' <;> cases va <;> first | rfl | cases hva
   subst hva
   have hz:∀ ok l,FlatS (mA comma va' ok l):=fun ok l=>by
    have e:FlatS (mkv va' (aJ l))∧FlatS (.tup [mkv va' (aJ l),.bool ok]):=by
     cases va' with
     | true =>
      refine ⟨fun e he=>?_,fun e he=>?_⟩
      ·obtain ⟨x,_,rfl⟩:=fM he
       exact dZ x
      ·simp only [List.mem_cons,List.not_mem_nil,or_false] at he
       rcases he with rfl | rfl
       ·intro x hx
        obtain ⟨y,_,rfl⟩:=fM hx
        exact ⟨dZ y,(bH y).symm⟩
       ·trivial
     | false =>
      have:mkv false (aJ l)=(nth l 0 .dead).pure1:=by
       simp only [mkv,cond_false]
       rw [aX]
      rw [this]
      have hc:=dZ (nth l 0 .dead)
      refine ⟨hc.flat,fun e he=>?_⟩
      simp only [List.mem_cons,List.not_mem_nil,or_false] at he
      rcases he with rfl | rfl
      ·generalize (nth l 0 D.dead).pure1=d at hc
       cases d <;> first | trivial | exact hc.elim
      ·trivial
    cases comma with
    | false=>exact e.1
    | true=>exact e.2
   rcases bW h with ⟨_,rfl,rfl⟩ | ⟨_,rfl,rfl⟩
   ·exact ⟨hz _ _,none'⟩
   ·exact ⟨hz _ _,none'⟩
  ·rename_i n ks vs hi'
   obtain ⟨hb,h⟩:=bF h
   have hm:∀ y∈[(i,false,[D.str k,.mp true n ks vs])],∀ e∈y.2.2,Cell e:=fun y hy=>by
    simp only [List.mem_singleton] at hy
    subst hy
    intro e he
    simp only [List.mem_cons,List.not_mem_nil,or_false] at he
    rcases he with rfl | rfl <;> trivial
   rcases bW h with ⟨_,rfl,rfl⟩ | ⟨_,rfl,rfl⟩
   ·refine ⟨fun e he=>?_,hm⟩
    rcases qB he with ⟨q,z,m,g,h2,rfl⟩ | ⟨x,rfl⟩
    ·trivial
    ·exact dZ x
   ·refine ⟨fun e he=>?_,hm⟩
    simp only [jE,Bool.and_eq_true,List.all_eq_true] at ho
    exact s5 (ho.1 e he)
  ·exact (aD h).elim
 ·obtain ⟨rfl,rfl⟩:=aE h; exact ⟨trivial,none'⟩
 ·obtain ⟨rfl,rfl⟩:=aE h; exact ⟨trivial,none'⟩
 ·obtain ⟨rfl,rfl⟩:=aE h; exact ⟨trivial,none'⟩
 ·rcases bW h with ⟨_,rfl,rfl⟩ | ⟨_,rfl,rfl⟩
  ·exact ⟨trivial,none'⟩
  ·exact ⟨trivial,none'⟩
 ·obtain ⟨rfl,rfl⟩:=aE h; exact ⟨trivial,none'⟩
 ·obtain ⟨_,h⟩:=cO h
  obtain ⟨_,rfl,rfl⟩:=aM h
  exact ⟨trivial,none'⟩
 ·obtain ⟨rfl,rfl⟩:=aE h; exact ⟨trivial,none'⟩
 ·obtain ⟨rfl,rfl⟩:=aE h; exact ⟨trivial,none'⟩
 ·unfold pE at h
  split at h
  ·obtain ⟨_,h⟩:=bF h
   obtain ⟨_,h⟩:=kD h
   have hc:∀ (l:List D) (n:Nat),∀ e∈(aJ l).drop n,Cell e:=fun l n e he=>d5 l e (List.mem_of_mem_drop he)
   have e1:=eR h (hc _ _)
   obtain ⟨_,rfl⟩:=bY (lo:=0) (hi:=0) h (aU.2 fun d _=>bG d) (hc _ _)
   exact ⟨e1,none'⟩
  ·exact (aD h).elim
 ·unfold mP at h
  split at h
  ·obtain ⟨_,h⟩:=bF h
   obtain ⟨_,rfl,rfl⟩:=aW h
   refine ⟨trivial,fun y hy e he=>?_⟩
   simp only [List.mem_singleton] at hy
   subst hy
   simp only [List.mem_cons,List.not_mem_nil,or_false] at he
   rcases he with rfl | rfl <;> trivial
  ·exact (aD h).elim
 ·obtain ⟨_,h⟩:=cO h
  unfold qI at h
  split at h
  ·obtain ⟨_,h⟩:=bF h
   obtain ⟨_,rfl,rfl⟩:=aW h
   refine ⟨trivial,fun y hy e he=>?_⟩
   simp only [List.mem_singleton] at hy
   subst hy
   simp only [List.mem_cons,List.not_mem_nil,or_false] at he
   rcases he with rfl | rfl <;> trivial
  ·exact (aD h).elim
 ·exact (aD h).elim
end
def gw (gd:D) (w:Bool):Option Bool :=
 match gd with
 | .bool b=>some (b==w)
 | .tup []=>some false
 | _=>none
def iS (E:Env) (o:AO) (hp:Nat→Option (Bool×List D)) (tk:Nat→Option (Nat×Nat)) (args:List D) (gd:D) (k:D→Upd→Prop):Prop :=
 match o.guard with
 | none=>step E o.op o.id hp tk args k
 | some (_,w)=>match gw gd w with
  | some true=>step E o.op o.id hp tk args k
  | some false=>k (.tup []) Upd.none
  | none=>False
def rI (o:AO) (fr:List D):D:=match o.guard with
 | none=>.dead
 | some (j,_)=>nth fr j .dead
def fB (E:Env):Prop:=∀ j C,ag E j=some C→(∀ ds bs K K',(∀ rs bs',K rs bs'→K' rs bs')→C ds bs K→C ds bs K')∧∀ ds bs K,C ds bs K→∃ rs bs',K rs bs'
section
variable {E:Env} {o p q:AO} {hp hp':Nat→Option (Bool×List D)} {tk tk':Nat→Option (Nat×Nat)} {args:List D} {k k':D→Upd→Prop} {s:St} {lo hi:Nat}
theorem aFK {l:List D} {j:Nat} {d:D} (h:nth l j .dead=d) (hd:d≠.dead):upd l j d=l:=by
 induction l generalizing j with
 | nil=>rfl
 | cons a l ih=>cases j with
  | zero=>simp only [nth] at h; subst h; rfl
  | succ j=>simp only [nth] at h; simp only [upd,ih h]
theorem yA:∀ (l:List D) (i:Nat) (d:D) (k:List D→Prop),aFY l i d k=k (upd l i d)
 | [],_,_,_=>rfl
 | _::_,0,_,_=>rfl
 | a::l,i+1,d,k=>yA l i d fun l'=>k (a::l')
theorem aGY (dst:Option Nat) (v:D) (fr:List D) (k:List D→Prop):aGF dst v fr k=k (eM dst v fr):=by
 cases dst with
 | none=>rfl
 | some d=>exact yA fr d v k
theorem gE (E:Env) (o:AO) (s:St) (k:St→Prop):gOp E o s k↔iS E o s.hp s.tk (evs s.fr o.args) (rI o s.fr) (fun v u=>k (s.next o.dst v u)):=by
 unfold gOp iS rI aHK
 simp only [aGY,yA]
 cases hg:o.guard with
 | none=>exact Iff.rfl
 | some jw =>
  obtain ⟨j,w⟩:=jw
  simp only
  cases hd:nth s.fr j .dead with
  | bool b =>
   simp only
   have hs:upd s.fr j (.bool b)=s.fr:=aFK hd (by simp)
   cases b <;> cases w <;> simp only [Br,hs,gw] <;> exact Iff.rfl
  | tup l=>cases l <;> exact Iff.rfl
  | _=>exact Iff.rfl
theorem aBZ {C:aK} (hC:∀ ds bs K K',(∀ rs bs',K rs bs'→K' rs bs')→C ds bs K→C ds bs K') {id:Nat} {vs:List D} (h:∀ v u,k v u→k' v u) (hk:eO C id vs hp k):eO C id vs hp k':=by
 unfold eO at hk ⊢
 cases hb:b9 hp (ptrs vs) with
 | none=>rw [hb] at hk; exact hk.elim
 | some bs =>
  rw [hb] at hk
  simp only at hk ⊢
  cases hd:cY (ptrs vs) with
  | false=>rw [hd] at hk; exact hk.elim
  | true =>
   rw [hd] at hk
   obtain ⟨h1,h2⟩:=(mN vs bs _).1 hk
   exact (mN vs bs _).2 ⟨h1,hC _ _ _ _ (fun rs bs' hh=>by
    obtain ⟨v,u,h1,h2⟩:=cK hh
    exact fQ h1 (h v u h2)) h2⟩
theorem wA {o:Out} (h:∀ v u,k v u→k' v u) (hk:o.then k):o.then k':=by
 obtain ⟨v,u,h1,h2⟩:=cK hk
 exact fQ h1 (h v u h2)
def callee (E:Env) (id:Nat) (op:AOp) (args:List D):Option (aK×List D×Bool) :=
 match op with
 | .call p f=>(agc E id f).map fun C=>(C,args,p)
 | .callv p=>match args with
  | .fn f cap::r=>(ag E f).map fun C=>(C,r++cap,p)
  | _=>none
 | _=>none
theorem aBX (p b:Bool) (X:Prop):(bif p then X else Br b X False)↔((p=true∨b=true)∧X):=by
 cases p <;> cases b <;> simp [Br]
theorem iB {op:AOp} (hc:dG op=true) (id:Nat):step E op id hp tk args k↔∃ C vs p,callee E id op args=some (C,vs,p)∧(p=true∨pL vs=true)∧eO C id vs hp k:=by
 rw [jG]
 cases op <;> first | cases hc | skip
 ·rename_i p f
  simp only [callee]
  cases hE:agc E id f with
  | none=>simp
  | some C =>
   simp only [Option.map_some,Option.some.injEq,Prod.mk.injEq]
   rw [aBX]
   constructor
   ·exact fun h=>⟨C,args,p,⟨rfl,rfl,rfl⟩,h⟩
   ·rintro ⟨_,_,_,⟨rfl,rfl,rfl⟩,h⟩
    exact h
 ·rename_i p
  simp only [callee]
  split
  ·rename_i f cap r
   cases hE:ag E f with
   | none =>
    constructor
    ·exact fun h=>h.elim
    ·rintro ⟨_,_,_,h,_⟩
     simp [hE] at h
   | some C =>
    constructor
    ·exact fun h=>⟨C,r++cap,p,by simp [hE],(aBX _ _ _).1 h⟩
    ·rintro ⟨_,_,_,h,h2⟩
     simp only [hE,Option.map_some,Option.some.injEq,Prod.mk.injEq] at h
     obtain ⟨rfl,rfl,rfl⟩:=h
     exact (aBX _ _ _).2 h2
  ·simp
theorem fH {op:AOp} (hc:dG op=false) (id:Nat):step E op id hp tk args k↔(aT op id hp tk args).then k:=by
 rw [jG]
 cases op <;> first | exact Iff.rfl | cases hc
theorem qQ {op:AOp} {C:aK} {vs:List D} {p:Bool} {id:Nat} (h:callee E id op args=some (C,vs,p)):∃ j,ag E j=some C:=by
 unfold callee at h
 split at h
 ·rw [Option.map_eq_some_iff] at h
  obtain ⟨C',h1,h2⟩:=h
  cases h2
  exact aIE h1
 ·split at h
  ·rw [Option.map_eq_some_iff] at h
   obtain ⟨C',h1,h2⟩:=h
   cases h2
   exact ⟨_,h1⟩
  ·cases h
 ·cases h
theorem vL (hE:fB E) {op:AOp} {id:Nat} (h:∀ v u,k v u→k' v u) (hk:step E op id hp tk args k):step E op id hp tk args k':=by
 cases hc:dG op with
 | true =>
  obtain ⟨C,vs,p,h1,h2,h3⟩:=(iB hc id).1 hk
  obtain ⟨j,hj⟩:=qQ h1
  exact (iB hc id).2 ⟨C,vs,p,h1,h2,aBZ (hE j C hj).1 h h3⟩
 | false=>exact (fH hc id).2 (wA h ((fH hc id).1 hk))
theorem oF {C:aK} {id:Nat} {vs:List D}:eO C id vs hp k↔∃ bs,b9 hp (ptrs vs)=some bs∧cY (ptrs vs)=true∧nL vs bs True∧C (lK vs 0) bs (fun rs bs'=>(fX id (ptrs vs) hp bs rs bs').then k):=by
 have hBr:∀ (b:Bool) (X:Prop),Br b X False↔(b=true∧X):=fun b X=>by cases b <;> simp [Br]
 unfold eO
 cases hb:b9 hp (ptrs vs) with
 | none=>simp
 | some bs =>
  simp only [hBr]
  rw [mN]
  constructor
  ·rintro ⟨h1,h2,h3⟩
   exact ⟨bs,rfl,h1,h2,h3⟩
  ·rintro ⟨_,h,h1,h2,h3⟩
   cases h
   exact ⟨h1,h2,h3⟩
theorem vR (hE:fB E) {op:AOp} {id:Nat} (hk:step E op id hp tk args k):∃ v u,k v u:=by
 cases hc:dG op with
 | true =>
  obtain ⟨C,vs,p,h1,h2,h3⟩:=(iB hc id).1 hk
  obtain ⟨j,hj⟩:=qQ h1
  obtain ⟨bs,_,_,_,h6⟩:=oF.1 h3
  obtain ⟨rs,bs',h7⟩:=(hE j C hj).2 _ _ _ h6
  obtain ⟨v,u,_,h8⟩:=cK h7
  exact ⟨v,u,h8⟩
 | false =>
  obtain ⟨v,u,_,h2⟩:=cK ((fH hc id).1 hk)
  exact ⟨v,u,h2⟩
theorem eZ (hE:fB E) {gd:D} (h:∀ v u,k v u→k' v u) (hk:iS E o hp tk args gd k):iS E o hp tk args gd k':=by
 unfold iS at hk ⊢
 cases hg:o.guard with
 | none=>rw [hg] at hk; exact vL hE h hk
 | some jw =>
  obtain ⟨j,w⟩:=jw
  rw [hg] at hk
  simp only at hk ⊢
  cases hb:gw gd w with
  | none=>rw [hb] at hk; exact hk.elim
  | some b =>
   rw [hb] at hk
   cases b with
   | true=>exact vL hE h hk
   | false=>exact h _ _ hk
theorem wG (hE:fB E) {gd:D} (hk:iS E o hp tk args gd k):∃ v u,k v u:=by
 unfold iS at hk
 split at hk
 ·exact vR hE hk
 ·split at hk
  ·exact vR hE hk
  ·exact ⟨_,_,hk⟩
  ·exact hk.elim
theorem nY:∀ {l:List D},pL l=true→ptrs l=[]
 | [],_=>rfl
 | d::l,h=>by
  cases d <;> first | cases h | exact nY (l:=l) h
structure Keys (op:AOp) (id:Nat) (tk:Nat→Option (Nat×Nat)) (u:Upd):Prop where
 q:uI op=true→u=Upd.none
 h:jF op id=false→∀ x∈u.h,id≤x.1∧x.1 < id+bD op
 t:∀ x∈u.t,(id≤x.1∧x.1 < id+bD op)∨((iO op=true∨jF op id=true)∧tk x.1≠none)
theorem Keys.none {op:AOp} {id:Nat}:Keys op id tk Upd.none:=⟨fun _=>rfl,fun _ x hx=>by simp [Upd.none] at hx,fun x hx=>by simp [Upd.none] at hx⟩
theorem gY {g:Bool} {n:Nat} {l:List D} {v:D} {u:Upd} (h:(bS g n l).holds v u):u=Upd.none:=by
 unfold bS at h
 cases hb:Nat.ble n l.length with
 | false=>rw [hb] at h; exact (aD h).elim
 | true=>rw [hb] at h; exact (aE h).2
theorem aHA {op:BinOp} {x y v:D} {u:Upd} (h:(bin op x y).holds v u):u=Upd.none:=(qJ (lo:=0) (hi:=0) h).2
theorem rD {sz bytes id:Nat} {t:Tag} {z n:Nat} {g:Nat→List D} {m:Nat} {k:Nat→List D} {v:D} {u:Upd} (h:(cU id sz bytes tk t z n g m k).holds v u):Keys (.append sz bytes) id tk u:=by
 unfold cU at h
 cases hb:Nat.beq z sz with
 | false=>rw [hb] at h; exact (aD h).elim
 | true =>
  rw [hb] at h
  simp only [Bool.not_true,cond_false] at h
  split at h
  ·rename_i i
   split at h
   ·rename_i z' n' hi'
    cases hb2:Nat.beq z' sz with
    | false=>rw [hb2] at h; exact (aD h).elim
    | true =>
     rw [hb2] at h
     obtain ⟨_,rfl,rfl⟩:=aW h
     refine ⟨fun h=>(by cases h),fun _ x hx=>by simp at hx,fun x hx=>?_⟩
     simp only [List.mem_singleton] at hx
     subst hx
     exact .inr ⟨.inl rfl,by simp [hi']⟩
   ·exact (aD h).elim
  ·obtain ⟨_,rfl,rfl⟩:=aW h
   refine ⟨fun h=>(by cases h),fun _ x hx=>by simp at hx,fun x hx=>?_⟩
   simp only [List.mem_singleton] at hx
   subst hx
   exact .inl (by simp [bD])
  ·exact (aD h).elim
theorem aGE {op:AOp} {id:Nat} {v:D} {u:Upd} (hh:(aT op id hp tk args).holds v u):Keys op id tk u:=by
 have N:∀ {u:Upd},u=Upd.none→Keys op id tk u:=fun h=>h ▸ Keys.none
 unfold aT at hh
 split at hh
 all_goals (try (exact (aD hh).elim))
 all_goals (try (exact N (aE hh).2))
 all_goals (try (exact N (aM hh).2.2))
 all_goals (try (exact N (aW hh).2.2))
 all_goals (try (exact N (gY hh)))
 all_goals (try (exact N (aHA hh)))
 ·rename_i cells
  cases hs:aG cells with
  | false=>rw [hs] at hh; exact (aD hh).elim
  | true =>
   rw [hs] at hh
   obtain ⟨rfl,rfl⟩:=a6 hh
   refine ⟨fun h=>(by cases h),fun _ x hx=>?_,fun x hx=>.inl ?_⟩
   ·simp only [List.mem_singleton] at hx
    subst hx
    simp only [bD]
    omega
   ·have h1:=fV _ _ _ hx
    have h2:=kV _ _ _ hx
    simp only [bD]
    omega
 ·rename_i x
  cases hs:aG x.cells with
  | false=>rw [hs] at hh; exact (aD hh).elim
  | true =>
   rw [hs] at hh
   obtain ⟨rfl,rfl⟩:=a6 hh
   refine ⟨fun h=>(by cases h),fun _ x hx=>?_,fun x hx=>by simp at hx⟩
   simp only [List.mem_singleton] at hx
   subst hx
   simp [bD]
 ·split at hh
  ·exact N (gY (bF hh).2)
  ·exact (aD hh).elim
 ·rename_i n i off x
  split at hh
  ·rename_i cs hi'
   replace hh:=(cO hh).2
   cases hb:(aG x.cells&&Nat.beq x.cells.length n&&Nat.ble (off+n) cs.length) with
   | false=>rw [hb] at hh; exact (aD hh).elim
   | true =>
    rw [hb] at hh
    obtain ⟨rfl,rfl⟩:=a6 hh
    exact ⟨fun h=>(by cases h),fun h=>(by cases h),fun x hx=>by simp at hx⟩
  ·exact (aD hh).elim
 ·rename_i sz t z n g k i
  cases hb:Nat.beq z sz with
  | false=>rw [hb] at hh; exact (aD hh).elim
  | true=>rw [hb] at hh; exact N (aM hh).2.2
 ·rename_i g sz len l k i
  cases hl:bS g sz (l.drop (i.toNat * sz)) with
  | ok v' u' =>
   rw [hl] at hh
   obtain ⟨_,rfl,rfl⟩:=aM hh
   exact N (gY (v:=v) (.inl hl))
  | bad=>rw [hl] at hh; exact (aD hh).elim
  | ask p v' u'=>rw [hl] at hh; exact (aD hh).elim
  | chk p v' u'=>rw [hl] at hh; exact (aD hh).elim
  | alt p v' u' v2 u2=>rw [hl] at hh; exact (aD hh).elim
 ·split at hh
  ·exact N (aE hh).2
  ·exact (aD hh).elim
 ·rename_i sz len zero parts
  split at hh
  ·rename_i l hl
   cases hb:(Nat.beq zero.length sz&&aG l) with
   | false=>rw [hb] at hh; exact (aD hh).elim
   | true=>rw [hb] at hh; exact N (aE hh).2
  ·exact (aD hh).elim
 ·rename_i sz lo' hi' mx t z n g r
  cases hb:Nat.beq z sz with
  | false=>rw [hb] at hh; exact (aD hh).elim
  | true =>
   rw [hb] at hh
   simp only [Bool.not_true,cond_false] at hh
   split at hh
   ·split at hh
    ·split at hh
     ·exact N (aM hh).2.2
     ·exact (aD hh).elim
    ·exact (aD hh).elim
   ·exact (aD hh).elim
 ·split at hh
  ·split at hh
   ·exact N (aM hh).2.2
   ·exact (aD hh).elim
  ·exact (aD hh).elim
 ·rename_i sz len np' i off
  split at hh
  ·rename_i f cs hi'
   replace hh:=(cO hh).2
   cases hb:(Nat.ble (off+len * sz) cs.length&&Nat.ble np' i) with
   | false=>rw [hb] at hh; exact (aD hh).elim
   | true =>
    rw [hb] at hh
    obtain ⟨rfl,rfl⟩:=a6 hh
    exact ⟨fun h=>(by cases h),fun h=>(by cases h),fun x hx=>by simp at hx⟩
  ·exact (aD hh).elim
 ·rename_i sz len np' l
  cases hb:Nat.ble (len * sz) l.length with
  | false=>rw [hb] at hh; exact (aD hh).elim
  | true=>rw [hb] at hh; exact N (aE hh).2
 ·rename_i sz bytes t z n g t' z' m g'
  cases hb:Nat.beq z' sz with
  | false=>rw [hb] at hh; exact (aD hh).elim
  | true=>rw [hb] at hh; exact rD hh
 ·rename_i sz bytes t z n g b
  cases hb:Nat.beq sz 1 with
  | false=>rw [hb] at hh; exact (aD hh).elim
  | true=>rw [hb] at hh; exact rD hh
 ·split at hh
  ·exact N (aE hh).2
  ·exact (aD hh).elim
 ·unfold un at hh
  split at hh
  ·exact N (aE hh).2
  ·exact N (aE hh).2
  ·exact (aD hh).elim
 ·rename_i f np'
  split at hh
  ·obtain ⟨rfl,rfl⟩:=a6 hh
   exact ⟨fun h=>(by cases h),fun h=>(by cases h),fun x hx=>by simp at hx⟩
  ·exact (aD hh).elim
 ·rename_i i l
  cases hb:Nat.blt i l.length with
  | false=>rw [hb] at hh; exact (aD hh).elim
  | true=>rw [hb] at hh; exact N (aE hh).2
 ·rename_i zero bytes k l k' c
  cases hs:aG zero with
  | false=>rw [hs] at hh; exact (aD hh).elim
  | true =>
   rw [hs] at hh
   cases hrow:Nat.ble 1000000 id with
   | true =>
    rw [hrow] at hh
    obtain ⟨_,rfl,rfl⟩:=aW hh
    refine ⟨fun h=>(by cases h),fun _ x hx=>?_,fun x hx=>by simp at hx⟩
    simp only [List.mem_singleton] at hx
    subst hx
    simp [bD]
   | false =>
    rw [hrow] at hh
    obtain ⟨_,rfl,rfl⟩:=aW hh
    refine ⟨fun h=>(by cases h),fun _ x hx=>by simp at hx,fun x hx=>.inl ?_⟩
    simp only [List.mem_singleton] at hx
    subst hx
    simp [bD]
 ·obtain ⟨rfl,rfl⟩:=a6 hh
  refine ⟨fun h=>(by cases h),fun _ x hx=>by simp at hx,fun x hx=>.inl ?_⟩
  simp only [List.mem_singleton] at hx
  subst hx
  simp [bD]
 ·obtain ⟨rfl,rfl⟩:=a6 hh
  refine ⟨fun h=>(by cases h),fun _ x hx=>?_,fun x hx=>by simp at hx⟩
  simp only [List.mem_singleton] at hx
  subst hx
  simp [bD]
 ·unfold oY at hh
  split at hh
  ·rcases bW hh with ⟨_,rfl,rfl⟩ | ⟨_,rfl,rfl⟩
   ·exact ⟨fun h=>(by cases h),fun h=>(by cases h),fun x hx=>by simp at hx⟩
   ·exact N rfl
  ·exact (aD hh).elim
 ·obtain ⟨rfl,rfl⟩:=a6 hh
  refine ⟨fun h=>(by cases h),fun _ x hx=>?_,fun x hx=>by simp at hx⟩
  simp only [List.mem_singleton] at hx
  subst hx
  simp [bD]
 ·unfold sC at hh
  split at hh
  ·exact N (aE hh).2
  ·exact (aD hh).elim
 ·unfold tY at hh
  split at hh
  ·obtain ⟨_,hh⟩:=bF hh
   obtain ⟨rfl,rfl⟩:=a6 hh
   exact ⟨fun h=>(by cases h),fun h=>(by cases h),fun x hx=>by simp at hx⟩
  ·obtain ⟨_,hh⟩:=bF hh
   split at hh
   ·rename_i u0 p hput
    obtain ⟨_,rfl,rfl⟩:=aW hh
    refine ⟨fun h=>(by cases h),fun h=>(by cases h),fun x hx=>.inr ⟨.inr rfl,?_⟩⟩
    obtain ⟨e,he⟩:=pI hput x hx
    rw [he]
    exact fun h=>by cases h
   ·exact (aD hh).elim
  ·exact (aD hh).elim
 ·unfold t6 at hh
  split at hh
  ·obtain ⟨_,hh⟩:=bF hh
   rcases bW hh with ⟨_,rfl,rfl⟩ | ⟨_,rfl,rfl⟩
   ·exact N rfl
   ·exact N rfl
  ·obtain ⟨hb,hh2⟩:=bF hh
   simp only [Bool.and_eq_true,Bool.not_eq_true'] at hb
   obtain ⟨⟨⟨⟨hva,_⟩,hsl⟩,hlen⟩,_⟩:=hb
   have hlen:=Nat.eq_of_beq_eq_true hlen
   subst hva
   rcases bW hh2 with ⟨_,rfl,rfl⟩ | ⟨_,rfl,rfl⟩
   ·refine ⟨fun h=>(by cases h),fun h=>absurd h (by simp [jF,aBJ,hsl]),fun x hx=>.inl ?_⟩
    have:=qL hx
    simp only [bD]
    omega
   ·exact ⟨fun h=>(by cases h),fun h=>absurd h (by simp [jF,aBJ,hsl]),fun x hx=>by simp at hx⟩
  ·exact (aD hh).elim
 ·rcases bW hh with ⟨_,rfl,rfl⟩ | ⟨_,rfl,rfl⟩
  ·exact N rfl
  ·exact N rfl
 ·obtain ⟨_,hh⟩:=cO hh
  exact N (aM hh).2.2
 ·unfold pE at hh
  split at hh
  ·obtain ⟨_,hh⟩:=bF hh
   obtain ⟨_,hh⟩:=kD hh
   exact N (gY hh)
  ·exact (aD hh).elim
 ·unfold mP at hh
  split at hh
  ·obtain ⟨_,hh⟩:=bF hh
   obtain ⟨_,rfl,rfl⟩:=aW hh
   exact ⟨fun h=>(by cases h),fun h=>(by cases h),fun x hx=>by simp at hx⟩
  ·exact (aD hh).elim
 ·obtain ⟨hc,hh⟩:=cO hh
  obtain ⟨hc,_⟩:=gR hc
  obtain ⟨hc,_⟩:=gR hc
  unfold qI at hh
  split at hh
  ·obtain ⟨_,hh⟩:=bF hh
   obtain ⟨_,rfl,rfl⟩:=aW hh
   refine ⟨fun h=>(by cases h),fun h=>?_,fun x hx=>by simp at hx⟩
   have:Nat.ble 1000000 id=false:=h
   rw [hc] at this
   cases this
  ·exact (aD hh).elim
end
section
variable {E:Env} {o p q:AO} {hp hp':Nat→Option (Bool×List D)} {tk tk':Nat→Option (Nat×Nat)} {args:List D} {k k':D→Upd→Prop} {s:St} {lo hi:Nat}
theorem Tidy.dead (h:Tidy lo hi s) (dst:Option Nat):Tidy lo hi (s.next dst (.tup []) Upd.none) :=
 h.after (v:=.tup []) ⟨rfl,fun e he=>by cases he⟩ (fun x hx=>by simp [Upd.none] at hx) (fun x hx=>by simp [Upd.none] at hx) dst
theorem aF6 (d:D) (i:Nat):FlatS (d.res.own i)∧(match d.res.own i with | .agg c=>∀ x∈c,Cell x∧x=x.pure1 | .tup _=>False | _=>True):=by
 cases d with
 | slice t z n g=>cases t <;> exact ⟨trivial,trivial⟩
 | agg c =>
  refine ⟨d5 c,fun x hx=>⟨d5 c x hx,?_⟩⟩
  obtain ⟨y,_,rfl⟩:=fM hx
  exact (bH y).symm
 | _=>exact ⟨trivial,trivial⟩
theorem aD8 (rs:List D) (id:Nat):FlatS (k6 (b7 (aZ rs) id)):=by
 have hnth:∀ j,FlatS (nth (b7 (aZ rs) id) j .dead)∧(match nth (b7 (aZ rs) id) j .dead with | .agg c=>∀ x∈c,Cell x∧x=x.pure1 | .tup _=>False | _=>True):=fun j=>by
  rw [m8,gD]
  exact aF6 _ _
 generalize b7 (aZ rs) id=l at hnth
 match l with
 | []=>intro e he; cases he
 | [d]=>exact (hnth 0).1
 | d::d'::l =>
  show FlatS (.tup (d::d'::l))
  intro e he
  obtain ⟨j,hj,rfl⟩:=List.mem_iff_getElem.1 he
  have:=(hnth j).2
  rw [cP _ _ hj] at this
  exact this
theorem n5 (f:Bool) (cs:List D):∀ e∈fD f cs,Cell e:=by
 rcases cH f cs with ⟨_,z,n,g,rfl,e⟩ | ⟨_,e⟩
 ·rw [e]
  intro x hx
  simp only [List.mem_cons,List.not_mem_nil,or_false] at hx
  rcases hx with rfl | rfl <;> trivial
 ·rw [e]
  exact d5 _
theorem aED (h:Tidy lo hi s) {id:Nat} {ids:List Nat} {bs bs':List (List D)} (hb:b9 s.hp ids=some bs) {rs:List D} (h4:rs.length≤4) (hid:id+4≤lo∨hi≤id) (dst:Option Nat) :
  Tidy lo hi (s.next dst (k6 (b7 (aZ rs) id)) ⟨aY s.hp ids bs',aS (aZ rs) id⟩):=by
 have hc:=sB h.clean hb (bs':=bs') h4 hid dst
 refine ⟨fun d hd=>?_,fun i f cs hx=>?_,hc.tk⟩
 ·obtain ⟨j,hj,rfl⟩:=List.mem_iff_getElem.1 hd
  have h1:=hc.fr j hj
  rw [cP _ _ hj] at h1
  refine ⟨h1,?_⟩
  rcases kQ hd with h2 | h2
  ·rw [h2]; exact aD8 rs id
  ·exact (h.fr _ h2).2
 ·refine ⟨(hc.hp i f cs hx).1,(hc.hp i f cs hx).2,?_⟩
  rcases jY hx with h1 | h1
  ·exact (h.hp i f cs h1).2.2
  ·obtain ⟨_,f,c,h3⟩:=j5 h1
   simp only at h3
   rw [h3]
   exact n5 f c
theorem uR (h:Tidy lo hi s) {id:Nat} {ids:List Nat} {bs bs':List (List D)} (hb:b9 s.hp ids=some bs) {l:List D} (hid:id+4≤lo∨hi≤id) (dst:Option Nat) :
  Tidy lo hi (s.next dst (.ptr id 0) ⟨aY s.hp ids bs'++[(id,false,aJ l)],[]⟩):=by
 have hc:=mB h.clean hb (bs':=bs') (l:=l) hid dst
 refine ⟨fun d hd=>?_,fun i f cs hx=>?_,hc.tk⟩
 ·obtain ⟨j,hj,rfl⟩:=List.mem_iff_getElem.1 hd
  have h1:=hc.fr j hj
  rw [cP _ _ hj] at h1
  refine ⟨h1,?_⟩
  rcases kQ hd with h2 | h2
  ·rw [h2]; trivial
  ·exact (h.fr _ h2).2
 ·refine ⟨(hc.hp i f cs hx).1,(hc.hp i f cs hx).2,?_⟩
  rcases jY hx with h1 | h1
  ·exact (h.hp i f cs h1).2.2
  ·rcases List.mem_append.1 h1 with h1 | h1
   ·obtain ⟨_,f,c,h3⟩:=j5 h1
    simp only at h3
    rw [h3]
    exact n5 f c
   ·simp only [List.mem_singleton,Prod.mk.injEq] at h1
    obtain ⟨_,_,rfl⟩:=h1
    exact d5 l
theorem uV (h:Tidy lo hi s) {id:Nat} {ids:List Nat} {bs bs':List (List D)} (hb:b9 s.hp ids=some bs) {z n:Nat} {g:Nat→List D} (hid:id+4≤lo∨hi≤id) (dst:Option Nat) :
  Tidy lo hi (s.next dst (.msl id z n) ⟨aY s.hp ids bs'++[(id,false,[.dead,.arr true z n g])],[]⟩):=by
 have hc:=l4 h.clean hb (bs':=bs') (z:=z) (n:=n) (g:=g) hid dst
 refine ⟨fun d hd=>?_,fun i f cs hx=>?_,hc.tk⟩
 ·obtain ⟨j,hj,rfl⟩:=List.mem_iff_getElem.1 hd
  have h1:=hc.fr j hj
  rw [cP _ _ hj] at h1
  refine ⟨h1,?_⟩
  rcases kQ hd with h2 | h2
  ·rw [h2]; trivial
  ·exact (h.fr _ h2).2
 ·refine ⟨(hc.hp i f cs hx).1,(hc.hp i f cs hx).2,?_⟩
  rcases jY hx with h1 | h1
  ·exact (h.hp i f cs h1).2.2
  ·rcases List.mem_append.1 h1 with h1 | h1
   ·obtain ⟨_,f,c,h3⟩:=j5 h1
    simp only at h3
    rw [h3]
    exact n5 f c
   ·simp only [List.mem_singleton,Prod.mk.injEq] at h1
    obtain ⟨_,_,rfl⟩:=h1
    intro e he
    simp only [List.mem_cons,List.not_mem_nil,or_false] at he
    rcases he with rfl | rfl <;> trivial
theorem rA {op:AOp} {id:Nat} (h:jF op id=false):aBJ op=false:=by
 unfold jF at h
 cases hl:aBJ op with
 | false=>rfl
 | true=>rw [hl] at h; cases h
def aDL (o:AO) (s:St) (v:D) (u:Upd):Prop :=
 Keys o.op o.id s.tk u∧∀ lo hi,Tidy lo hi s→(o.id+bD o.op≤lo∨hi≤o.id)→Tidy lo hi (s.next o.dst v u)
theorem t7 (hE:fB E) (hok:jE o.op=true) (hax:o.args.all mG=true) (h:step E o.op o.id s.hp s.tk (evs s.fr o.args) k):step E o.op o.id s.hp s.tk (evs s.fr o.args) (fun v u=>k v u∧aDL o s v u):=by
 cases hc:dG o.op with
 | true =>
  obtain ⟨C,vs,p,h1,h2,h3⟩:=(iB hc o.id).1 h
  refine (iB hc o.id).2 ⟨C,vs,p,h1,h2,?_⟩
  obtain ⟨bs,h4,h5,h50,h6⟩:=oF.1 h3
  refine oF.2 ⟨bs,h4,h5,h50,?_⟩
  obtain ⟨j,hj⟩:=qQ h1
  refine (hE j C hj).1 _ _ _ _ (fun rs bs' hh=>?_) h6
  obtain ⟨v,u,hho,hk⟩:=cK hh
  have hi4:bD o.op=4:=by cases hop:o.op <;> rw [hop] at hc <;> first | rfl | cases hc
  have hzip:aBJ o.op=false→aY s.hp (ptrs vs) bs'=[]:=fun hl'=>by
   have hp:p=false:=by
    cases hop:o.op <;> rw [hop] at hc hl' h1 <;> first | cases hc | skip
    ·simp only [callee,Option.map_eq_some_iff] at h1
     obtain ⟨_,_,h1⟩:=h1
     cases h1
     cases p <;> first | rfl | cases hl'
    ·simp only [callee] at h1
     split at h1
     ·simp only [Option.map_eq_some_iff] at h1
      obtain ⟨_,_,h1⟩:=h1
      cases h1
      cases p <;> first | rfl | cases hl'
     ·cases h1
   subst hp
   have hn:=h2.resolve_left (by simp)
   rw [nY hn]
   rfl
  have hq0:uI o.op=true→u=Upd.none:=fun hq=>by
   cases hop:o.op <;> rw [hop] at hc hq <;> first | (cases hq; done) | (cases hc; done)
  refine fQ hho ⟨hk,⟨hq0,fun hl0 x hx=>?_,fun x hx=>.inl ?_⟩,fun lo hi ht hid=>?_⟩
  ·have hl':=rA hl0
   obtain ⟨_,⟨_,rfl,rfl⟩ | ⟨l,rfl,_,rfl,rfl⟩ | ⟨_,_,_,_,rfl,rfl,rfl⟩⟩:=fZ hho
   ·rw [hzip hl'] at hx
    simp at hx
   ·rw [hzip hl'] at hx
    simp only [List.nil_append,List.mem_singleton] at hx
    subst hx
    simp only
    omega
   ·rw [hzip hl'] at hx
    simp only [List.nil_append,List.mem_singleton] at hx
    subst hx
    simp only
    omega
  ·obtain ⟨_,⟨hl,rfl,rfl⟩ | ⟨l,rfl,_,rfl,rfl⟩ | ⟨_,_,_,_,rfl,rfl,rfl⟩⟩:=fZ hho
   ·have e1:=fV _ _ _ hx
    have e2:=kV _ _ _ hx
    rw [cB] at e2
    omega
   ·simp at hx
   ·simp at hx
  ·rw [hi4] at hid
   obtain ⟨_,⟨hl,rfl,rfl⟩ | ⟨l,rfl,_,rfl,rfl⟩ | ⟨_,_,_,_,rfl,rfl,rfl⟩⟩:=fZ hho
   ·exact aED ht h4 hl hid o.dst
   ·exact uR ht h4 hid o.dst
   ·exact uV ht h4 hid o.dst
 | false =>
  have h:=(fH hc o.id).1 h
  obtain ⟨v,u,h1,h2⟩:=cK h
  refine (fH hc o.id).2 (fQ h1 ⟨h2,aGE h1,fun lo hi ht hid=>?_⟩)
  have ha:=sX ht hax
  obtain ⟨e1,e2,e3⟩:=vT h1 hok (fun d hd=>⟨(ha d hd).1,(ha d hd).2.flatD⟩) ht.hp ht.tk hid
  obtain ⟨e4,e5⟩:=aE1 h1 hok (fun d hd=>(ha d hd).2) (fun i f cs hx=>(ht.hp i f cs hx).2.2)
  exact ht.after ⟨e1,e4⟩ (fun x hx=>⟨(e2 x hx).1,(e2 x hx).2,e5 x hx⟩) e3 o.dst
theorem kK (hE:fB E) (hok:jE o.op=true) (hax:o.args.all mG=true) {gd:D} (h:iS E o s.hp s.tk (evs s.fr o.args) gd k):iS E o s.hp s.tk (evs s.fr o.args) gd (fun v u=>k v u∧aDL o s v u):=by
 unfold iS at h ⊢
 cases hg:o.guard with
 | none=>rw [hg] at h; exact t7 hE hok hax h
 | some jw =>
  obtain ⟨j,w⟩:=jw
  rw [hg] at h
  simp only at h ⊢
  cases hb:gw gd w with
  | none=>rw [hb] at h; exact h.elim
  | some b =>
   rw [hb] at h
   cases b with
   | true=>exact t7 hE hok hax h
   | false=>exact ⟨h,Keys.none,fun lo hi ht _=>ht.dead o.dst⟩
def D.idOf:D→Option Nat
 | .ptr i _=>some i
 | .mref i=>some i
 | .msl i _ _=>some i
 | .rptr i _ _ _ _=>some i
 | _=>none
theorem aCO {d:D} {i lo hi:Nat} (h:d.idOf=some i) (hn:d.names lo hi=false):(Nat.ble lo i&&Nat.blt i hi)=false:=by
 cases d <;> cases h <;> exact hn
def Alike' (op:AOp) (args:List D) (hp hp':Nat→Option (Bool×List D)) (tk tk':Nat→Option (Nat×Nat)):Prop :=
 uI op=true∨(hp=hp'∧tk=tk') ∨
 (aBJ op=false∧(∀ d∈args,∀ i,d.idOf=some i→hp i=hp' i)∧(iO op=true→∀ i z n g,D.slice (.own i) z n g∈args→tk i=tk' i))
theorem pC {id sz bytes:Nat} {t:Tag} {z n:Nat} {g:Nat→List D} {m:Nat} {kk:Nat→List D} (h:∀ i,t=.own i→tk i=tk' i):cU id sz bytes tk t z n g m kk=cU id sz bytes tk' t z n g m kk:=by
 unfold cU
 cases t with
 | own i=>simp only [h i rfl]
 | _=>rfl
theorem aD1 {op:AOp} {id:Nat} (h:Alike' op args hp hp' tk tk'):aT op id hp tk args=aT op id hp' tk' args:=by
 rcases h with h | ⟨rfl,rfl⟩ | ⟨h1,h2,h3⟩
 ·unfold aT
  split <;> first | rfl | cases h
 ·rfl
 ·unfold aT
  split <;> first | rfl | (cases h1; done) | skip
  ·rename_i g n i off
   simp only [h2 (.ptr i off) (by simp) i rfl]
  ·rename_i sz bytes t z n g t' z' m g'
   rw [pC (fun i e=>h3 rfl i z n g (by simp [e]))]
  ·rename_i sz bytes t z n g b
   rw [pC (fun i e=>h3 rfl i z n g (by simp [e]))]
  ·rename_i i
   rw [h2 (.mref i) (by simp) i rfl]
  ·rename_i i k
   rw [h2 (.mref i) (by simp) i rfl]
  ·rename_i isAgg m j z n i o
   rw [h2 (.rptr j z n i o) (by simp) j rfl]
  ·rename_i sz bytes j z n t z' m h
   rw [h2 (.msl j z n) (by simp) j rfl]
theorem aAL (id:Nat) (bs rs bs'):fX id [] hp bs rs bs'=fX id [] hp' bs rs bs':=by
 unfold fX
 split <;> rfl
theorem zU {C:aK} {id:Nat} {vs:List D} (h:ptrs vs=[]) (hk:eO C id vs hp k):eO C id vs hp' k:=by
 unfold eO at hk ⊢
 rw [h] at hk ⊢
 have e:∀ bs rs bs',fX id [] hp bs rs bs'=fX id [] hp' bs rs bs':=fun bs rs bs'=>aAL id bs rs bs'
 simp only [e] at hk
 exact hk
theorem tF {op:AOp} {id:Nat} (h:Alike' op args hp hp' tk tk') (hk:step E op id hp tk args k):step E op id hp' tk' args k:=by
 cases hc:dG op with
 | true =>
  rcases h with h | ⟨rfl,rfl⟩ | ⟨h1,h2,h3⟩
  ·cases op <;> first | (cases h; done) | (cases hc; done)
  ·exact hk
  ·obtain ⟨C,vs,p,e1,e2,e3⟩:=(iB hc id).1 hk
   have hp0:p=false:=by
    cases op <;> first | cases hc | skip
    ·simp only [callee,Option.map_eq_some_iff] at e1
     obtain ⟨_,_,e1⟩:=e1
     cases e1
     cases p <;> first | rfl | cases h1
    ·simp only [callee] at e1
     split at e1
     ·simp only [Option.map_eq_some_iff] at e1
      obtain ⟨_,_,e1⟩:=e1
      cases e1
      cases p <;> first | rfl | cases h1
     ·cases e1
   subst hp0
   have hn:=nY (e2.resolve_left (by simp))
   exact (iB hc id).2 ⟨C,vs,false,e1,e2,zU hn e3⟩
 | false =>
  have:=(fH hc id).1 hk
  rw [aD1 h] at this
  exact (fH hc id).2 this
theorem tC {gd:D} (h:Alike' o.op args hp hp' tk tk') (hk:iS E o hp tk args gd k):iS E o hp' tk' args gd k:=by
 unfold iS at hk ⊢
 cases hg:o.guard with
 | none=>rw [hg] at hk; exact tF h hk
 | some jw =>
  obtain ⟨j,w⟩:=jw
  rw [hg] at hk
  simp only at hk ⊢
  cases hb:gw gd w with
  | none=>rw [hb] at hk; exact hk.elim
  | some b =>
   rw [hb] at hk
   cases b with
   | true=>exact tF h hk
   | false=>exact hk
def aIM (o:AO) (hp:Nat→Option (Bool×List D)) (tk:Nat→Option (Nat×Nat)) (args:List D) (gd:D):Out :=
 match o.guard with
 | none=>aT o.op o.id hp tk args
 | some (_,w)=>match gw gd w with
  | some true=>aT o.op o.id hp tk args
  | some false=>.ok (.tup []) Upd.none
  | none=>.bad
theorem lS (hc:dG o.op=false) {gd:D}:iS E o hp tk args gd k↔(aIM o hp tk args gd).then k:=by
 unfold iS aIM
 cases o.guard with
 | none=>exact fH hc o.id
 | some jw =>
  obtain ⟨j,w⟩:=jw
  simp only
  cases gw gd w with
  | none=>exact Iff.rfl
  | some b =>
   cases b with
   | true=>exact fH hc o.id
   | false=>exact Iff.rfl
theorem aDW {o:Out} {v v':D} {u u':Upd} (h:o.holds v u) (h':o.holds v' u'):v=v'∧u=u':=by
 cases o with
 | bad=>exact (aD h).elim
 | ok _ _=>obtain ⟨rfl,rfl⟩:=a6 h; obtain ⟨rfl,rfl⟩:=a6 h'; exact ⟨rfl,rfl⟩
 | ask _ _ _=>obtain ⟨_,rfl,rfl⟩:=aW h; obtain ⟨_,rfl,rfl⟩:=aW h'; exact ⟨rfl,rfl⟩
 | chk _ _ _=>obtain ⟨_,rfl,rfl⟩:=aM h; obtain ⟨_,rfl,rfl⟩:=aM h'; exact ⟨rfl,rfl⟩
 | alt b _ _ _ _ =>
  rcases bW h with ⟨hb,rfl,rfl⟩ | ⟨hb,rfl,rfl⟩ <;> rcases bW h' with ⟨hb',rfl,rfl⟩ | ⟨hb',rfl,rfl⟩ <;> first | exact ⟨rfl,rfl⟩ | (rw [hb] at hb'; cases hb')
theorem aFP (hE:fB E) (hcalls:(dG q.op&&dG p.op)=false) {aq ap gq gp} {f:D→Upd→D→Upd→Prop} (h:iS E q hp tk aq gq (fun vq uq=>iS E p hp tk ap gp (fun vp up=>f vq uq vp up))) :
  iS E p hp tk ap gp (fun vp up=>iS E q hp tk aq gq (fun vq uq=>f vq uq vp up)):=by
 cases hq:dG q.op with
 | false =>
  obtain ⟨vq,uq,h1,h2⟩:=cK ((lS hq).1 h)
  exact eZ hE (fun vp up h3=>(lS hq).2 (fQ h1 h3)) h2
 | true =>
  have hp':dG p.op=false:=by rw [hq] at hcalls; simpa using hcalls
  obtain ⟨vq,uq,h1⟩:=wG hE h
  obtain ⟨vp,up,h2,_⟩:=cK ((lS hp').1 h1)
  refine (lS hp').2 (fQ h2 ?_)
  refine eZ hE (fun vq uq h3=>?_) h
  obtain ⟨vp',up',h4,h5⟩:=cK ((lS hp').1 h3)
  have:vp'=vp∧up'=up:=by
   exact aDW h4 h2
  rw [← this.1,← this.2]
  exact h5
end
section
variable {E:Env} {o p q:AO} {s:St} {lo hi:Nat}
theorem fF:∀ {l:List (Nat×Bool×List D)} {f:Nat→Option (Bool×List D)} {j:Nat},(∀ x∈l,x.1≠j)→dH f l j=f j
 | [],_,_,_=>rfl
 | (i,e)::l,f,j,h=>by
  simp only [dH]
  rw [fF (fun x hx=>h x (List.mem_cons_of_mem _ hx))]
  have:Nat.beq j i=false:=by
   cases hh:Nat.beq j i with
   | false=>rfl
   | true=>exact absurd (Nat.eq_of_beq_eq_true hh).symm (h (i,e) (by simp))
  rw [this]
  rfl
theorem xZ:∀ {l:List (Nat×Bool×List D)} {f g:Nat→Option (Bool×List D)} {j:Nat},(∃ x∈l,x.1=j)→dH f l j=dH g l j
 | [],_,_,_,h=>by obtain ⟨_,h,_⟩:=h; cases h
 | (i,e)::l,f,g,j,h=>by
  simp only [dH]
  by_cases hl:∃ x∈l,x.1=j
  ·exact xZ hl
  ·have h':∀ x∈l,x.1≠j:=fun x hx he=>hl ⟨x,hx,he⟩
   rw [fF h',fF h']
   obtain ⟨x,hx,rfl⟩:=h
   simp only [List.mem_cons] at hx
   rcases hx with rfl | hx
   ·simp [Nat.beq_refl]
   ·exact absurd rfl (h' x hx)
theorem xC:∀ {l:List (Nat×Nat×Nat)} {f g:Nat→Option (Nat×Nat)} {j:Nat},(∃ x∈l,x.1=j)→bX f l j=bX g l j
 | [],_,_,_,h=>by obtain ⟨_,h,_⟩:=h; cases h
 | (i,e)::l,f,g,j,h=>by
  simp only [bX]
  by_cases hl:∃ x∈l,x.1=j
  ·exact xC hl
  ·have h':∀ x∈l,x.1≠j:=fun x hx he=>hl ⟨x,hx,he⟩
   rw [eD h',eD h']
   obtain ⟨x,hx,rfl⟩:=h
   simp only [List.mem_cons] at hx
   rcases hx with rfl | hx
   ·simp [Nat.beq_refl]
   ·exact absurd rfl (h' x hx)
theorem aDZ {l1 l2:List (Nat×Bool×List D)} {f:Nat→Option (Bool×List D)} (h:∀ x∈l1,∀ y∈l2,x.1≠y.1):dH (dH f l1) l2=dH (dH f l2) l1:=by
 funext j
 by_cases h1:∃ x∈l1,x.1=j
 ·obtain ⟨x,hx,rfl⟩:=h1
  rw [fF (l:=l2) fun y hy he=>h x hx y hy he.symm]
  exact xZ ⟨x,hx,rfl⟩
 ·have h1':∀ x∈l1,x.1≠j:=fun x hx he=>h1 ⟨x,hx,he⟩
  rw [fF (l:=l1) (f:=dH f l2) h1']
  by_cases h2:∃ x∈l2,x.1=j
  ·exact xZ h2
  ·have h2':∀ x∈l2,x.1≠j:=fun x hx he=>h2 ⟨x,hx,he⟩
   rw [fF h2',fF h1',fF h2']
theorem aER {l1 l2:List (Nat×Nat×Nat)} {f:Nat→Option (Nat×Nat)} (h:∀ x∈l1,∀ y∈l2,x.1≠y.1):bX (bX f l1) l2=bX (bX f l2) l1:=by
 funext j
 by_cases h1:∃ x∈l1,x.1=j
 ·obtain ⟨x,hx,rfl⟩:=h1
  rw [eD (l:=l2) fun y hy he=>h x hx y hy he.symm]
  exact xC ⟨x,hx,rfl⟩
 ·have h1':∀ x∈l1,x.1≠j:=fun x hx he=>h1 ⟨x,hx,he⟩
  rw [eD (l:=l1) (tk:=bX f l2) h1']
  by_cases h2:∃ x∈l2,x.1=j
  ·exact xC h2
  ·have h2':∀ x∈l2,x.1≠j:=fun x hx he=>h2 ⟨x,hx,he⟩
   rw [eD h2',eD h1',eD h2']
theorem aFC {l:List D} {i j:Nat} {a b:D} (h:i≠j):upd (upd l i a) j b=upd (upd l j b) i a:=by
 induction l generalizing i j with
 | nil=>rfl
 | cons d l ih =>
  cases i with
  | zero=>cases j with
   | zero=>exact absurd rfl h
   | succ j=>rfl
  | succ i=>cases j with
   | zero=>rfl
   | succ j =>
    have:i≠j:=fun e=>h (e ▸ rfl)
    simp only [upd,ih this]
theorem iW {a b:List Nat} (h:lF a b=false) {i:Nat} (ha:i∈a) (hb:i∈b):False:=by
 unfold lF at h
 have:=List.any_eq_false.1 h i ha
 have h2:=fun hh=>this hh
 apply h2
 rw [List.any_eq_true]
 exact ⟨i,hb,by simp⟩
structure Apart (a b:AO):Prop where
 wr:lF a.writes b.reads=false
 ww:lF a.writes b.writes=false
 rw:lF a.reads b.writes=false
 calls:(dG a.op&&dG b.op)=false
 apps:(iO a.op&&iO b.op)=false
 kinds:uI a.op=true∨uI b.op=true∨(jF a.op a.id=false∧jF b.op b.id=false)
theorem uJ {a b:AO} (h:vK a b=true):Apart a b:=by
 unfold vK at h
 simp only [Bool.and_eq_true,Bool.not_eq_true',Bool.or_eq_true] at h
 obtain ⟨⟨⟨⟨⟨h1,h2⟩,h3⟩,h4⟩,h5⟩,h6⟩:=h
 refine ⟨h1,h2,h3,h4,h5,?_⟩
 rcases h6 with (h6 | h6) | h6
 ·exact .inl h6
 ·exact .inr (.inl h6)
 ·exact .inr (.inr h6)
theorem n6 {dst:Option Nat} {v:D} {fr:List D}:∀ {xs:List AX},(∀ d,dst=some d→d ∉ AX.slots xs)→evs (eM dst v fr) xs=evs fr xs
 | [],_=>rfl
 | .c d::xs,h=>by
  simp only [evs]
  rw [n6 (xs:=xs) (fun d' hd=>h d' hd)]
  rfl
 | .t i::xs,h=>by
  simp only [evs]
  rw [n6 (xs:=xs) (fun d hd hm=>h d hd (by simp [AX.slots,hm]))]
  congr 1
  simp only [AX.ev]
  cases dst with
  | none=>rfl
  | some d =>
   have:d≠i:=fun e=>h d rfl (by simp [AX.slots,e])
   simp only [eM,eT]
   rw [if_neg (fun hh=>this hh.1)]
theorem zE (o:AO):(∀ i,i∈AX.slots o.args→i∈o.reads)∧∀ j w,o.guard=some (j,w)→j∈o.reads:=by
 unfold AO.reads
 cases hg:o.guard with
 | none=>exact ⟨fun i hi=>hi,fun j w h=>by cases h⟩
 | some jw =>
  obtain ⟨j,w⟩:=jw
  exact ⟨fun i hi=>List.mem_cons_of_mem _ hi,fun j' w' h=>by cases h; simp⟩
theorem wE (h:Apart q p) (vq:D) (uq:Upd):evs (s.next q.dst vq uq).fr p.args=evs s.fr p.args∧rI p (s.next q.dst vq uq).fr=rI p s.fr:=by
 have hw:∀ d,q.dst=some d→d∈q.writes:=fun d hd=>by simp [AO.writes,hd]
 refine ⟨n6 fun d hd hm=>iW h.wr (hw d hd) ((zE p).1 d hm),?_⟩
 unfold rI
 cases hg:p.guard with
 | none=>rfl
 | some jw =>
  obtain ⟨j,w⟩:=jw
  have hj:=(zE p).2 j w hg
  simp only [St.next]
  cases hd:q.dst with
  | none=>rfl
  | some d =>
   have:d≠j:=fun e=>iW h.wr (hw d hd) (e ▸ hj)
   simp only [eM,eT]
   rw [if_neg (fun hh=>this hh.1)]
theorem Apart.symm (h:Apart q p):Apart p q:=by
 have mc:∀ {a b:List Nat},lF a b=false→lF b a=false:=by
  intro a b h
  cases hh:lF b a with
  | false=>rfl
  | true =>
   unfold lF at hh
   rw [List.any_eq_true] at hh
   obtain ⟨i,hi,h2⟩:=hh
   rw [List.any_eq_true] at h2
   obtain ⟨j,hj,h3⟩:=h2
   simp only [beq_iff_eq] at h3
   subst h3
   exact (iW h hj hi).elim
 refine ⟨mc h.rw,mc h.ww,mc h.wr,by rw [Bool.and_comm]; exact h.calls,by rw [Bool.and_comm]; exact h.apps,?_⟩
 rcases h.kinds with h1 | h1 | ⟨h1,h2⟩
 ·exact .inr (.inl h1)
 ·exact .inl h1
 ·exact .inr (.inr ⟨h2,h1⟩)
theorem oX {lo hi j:Nat} (h:(Nat.ble lo j&&Nat.blt j hi)=false) (h1:lo≤j) (h2:j < hi):False:=bR h ⟨h1,h2⟩
theorem aA1 (h:Apart q p) (hax:p.args.all mG=true) (tq:Tidy q.id (q.id+bD q.op) s) {u:Upd} (hk:Keys q.op q.id s.tk u):Alike' p.op (evs s.fr p.args) s.hp (dH s.hp u.h) s.tk (bX s.tk u.t):=by
 rcases h.kinds with h1 | h1 | ⟨h1,h2⟩
 ·rw [hk.q h1]
  exact .inr (.inl ⟨rfl,rfl⟩)
 ·exact .inl h1
 ·refine .inr (.inr ⟨rA h2,fun d hm i hi=>?_,fun happ i z n g hm=>?_⟩)
  ·have hn:=aCO hi (sX tq hax _ hm).1
   rw [fF]
   rintro x hx rfl
   have:=hk.h h1 x hx
   exact oX hn this.1 this.2
  ·have hn:=(sX tq hax _ hm).1
   rw [eD]
   rintro x hx rfl
   rcases hk.t x hx with h3 | ⟨h3,_⟩
   ·exact oX hn h3.1 h3.2
   ·rcases h3 with h3 | h3
    ·have:=h.apps
     rw [h3,happ] at this
     cases this
    ·rw [h1] at h3
     cases h3
theorem Alike'.symm {op:AOp} {args:List D} {hp hp':Nat→Option (Bool×List D)} {tk tk':Nat→Option (Nat×Nat)} (h:Alike' op args hp hp' tk tk'):Alike' op args hp' hp tk' tk:=by
 rcases h with h | ⟨h1,h2⟩ | ⟨h1,h2,h3⟩
 ·exact .inl h
 ·exact .inr (.inl ⟨h1.symm,h2.symm⟩)
 ·exact .inr (.inr ⟨h1,fun d hm i hi=>(h2 d hm i hi).symm,fun ha i z n g hm=>(h3 ha i z n g hm).symm⟩)
theorem aDU (h:Apart q p) (tq:Tidy q.id (q.id+bD q.op) s) (tp:Tidy p.id (p.id+bD p.op) s) (hdis:q.id+bD q.op≤p.id∨p.id+bD p.op≤q.id) {vq vp:D} {uq up:Upd} (kq:Keys q.op q.id s.tk uq) (kp:Keys p.op p.id s.tk up) :
  (s.next q.dst vq uq).next p.dst vp up=(s.next p.dst vp up).next q.dst vq uq:=by
 unfold St.next
 simp only [St.mk.injEq]
 refine ⟨?_,?_,?_⟩
 ·cases hq:q.dst with
  | none=>rfl
  | some d =>
   cases hp:p.dst with
   | none=>rfl
   | some e =>
    have:d≠e:=fun he=>iW h.ww (i:=d) (by simp [AO.writes,hq]) (by simp [AO.writes,hp,he])
    exact aFC this
 ·rcases h.kinds with h1 | h1 | ⟨h1,h2⟩
  ·rw [kq.q h1]; rfl
  ·rw [kp.q h1]; rfl
  ·refine aDZ fun x hx y hy he=>?_
   have e1:=kq.h h1 x hx
   have e2:=kp.h h2 y hy
   omega
 ·refine aER fun x hx y hy he=>?_
  rcases kq.t x hx with e1 | ⟨e1,e2⟩
  ·rcases kp.t y hy with e3 | ⟨e3,e4⟩
   ·omega
   ·cases hx':s.tk y.1 with
    | none=>exact e4 hx'
    | some e =>
     have:=tq.tk _ _ hx'
     omega
  ·rcases kp.t y hy with e3 | ⟨e3,e4⟩
   ·cases hx':s.tk x.1 with
    | none=>exact e2 hx'
    | some e =>
     have:=tp.tk _ _ hx'
     omega
   ·rcases h.kinds with h1 | h1 | ⟨h1,h2⟩
    ·rw [kq.q h1] at hx
     cases hx
    ·rw [kp.q h1] at hy
     cases hy
    ·rcases e1 with e1 | e1
     ·rcases e3 with e3 | e3
      ·have:=h.apps
       rw [e1,e3] at this
       cases this
      ·rw [h2] at e3
       cases e3
     ·rw [h1] at e1
      cases e1
theorem swap (hE:fB E) (h:Apart q p) (okq:jE q.op=true) (axq:q.args.all mG=true) (okp:jE p.op=true) (axp:p.args.all mG=true) (tq:Tidy q.id (q.id+bD q.op) s) (tp:Tidy p.id (p.id+bD p.op) s)
  (hdis:q.id+bD q.op≤p.id∨p.id+bD p.op≤q.id) {K:St→Prop} (hh:gOp E q s (fun s1=>gOp E p s1 K)):gOp E p s (fun s1=>gOp E q s1 K):=by
 rw [gE] at hh
 have h1:=kK hE okq axq hh
 have h2:iS E q s.hp s.tk (evs s.fr q.args) (rI q s.fr) (fun vq uq=>iS E p s.hp s.tk (evs s.fr p.args) (rI p s.fr) (fun vp up=>(K ((s.next q.dst vq uq).next p.dst vp up)∧aDL p s vp up)∧aDL q s vq uq)):=by
  refine eZ hE (fun vq uq hk=>?_) h1
  obtain ⟨hk,ha⟩:=hk
  rw [gE] at hk
  obtain ⟨e1,e2⟩:=wE (s:=s) h vq uq
  rw [e1,e2] at hk
  have hk:=tC ((aA1 h axp tq ha.1).symm) hk
  exact eZ hE (fun vp up h3=>⟨h3,ha⟩) (kK hE okp axp hk)
 have h3:=kK hE okp axp (aFP hE h.calls h2)
 rw [gE]
 refine eZ hE (fun vp up hk=>?_) h3
 obtain ⟨hk,ha⟩:=hk
 rw [gE]
 obtain ⟨e1,e2⟩:=wE (s:=s) h.symm vp up
 rw [e1,e2]
 refine tC (aA1 h.symm axq tp ha.1) (eZ hE (fun vq uq h4=>?_) hk)
 rw [← aDU h tq tp hdis h4.2.1 h4.1.2.1]
 exact h4.1.1
theorem pO (hE:fB E) {K K':St→Prop} (h:∀ s',K s'→K' s') (hk:gOp E o s K):gOp E o s K':=by
 rw [gE] at hk ⊢
 exact eZ hE (fun v u h1=>h _ h1) hk
theorem tL (hE:fB E) (hok:jE o.op=true) (hax:o.args.all mG=true) {K:St→Prop} (hk:gOp E o s K):gOp E o s (fun s'=>K s'∧∀ lo hi,Tidy lo hi s→(o.id+bD o.op≤lo∨hi≤o.id)→Tidy lo hi s'):=by
 rw [gE] at hk ⊢
 exact eZ hE (fun v u h1=>⟨h1.1,h1.2.2⟩) (kK hE hok hax hk)
theorem nG (hE:fB E):∀ {l:List AO} {s:St} {K K':St→Prop},(∀ s',K s'→K' s')→kN E l s K→kN E l s K'
 | [],_,_,_,h,hk=>h _ hk
 | o::l,s,K,K',h,hk=>pO hE (fun s' h1=>nG hE h h1) hk
def Dis (a b:AO):Prop:=a.id+bD a.op≤b.id∨b.id+bD b.op≤a.id
theorem aF9 (hE:fB E) (okp:jE p.op=true) (axp:p.args.all mG=true):∀ {l1 l2:List AO} {s:St} {K:St→Prop},(∀ q∈l1,Apart q p∧jE q.op=true∧q.args.all mG=true∧Dis q p)→l1.Pairwise Dis→Tidy p.id (p.id+bD p.op) s →
  (∀ q∈l1,Tidy q.id (q.id+bD q.op) s)→kN E (l1++p::l2) s K→gOp E p s (fun s1=>kN E (l1++l2) s1 K)
 | [],l2,s,K,_,_,_,_,hk=>hk
 | q::l1,l2,s,K,h,hd,tp,tq,hk=>by
  obtain ⟨h1,h2,h3,h4⟩:=h q (by simp)
  have hd':=List.pairwise_cons.1 hd
  have e1:gOp E q s (fun s1=>gOp E p s1 (fun s2=>kN E (l1++l2) s2 K)):=by
   refine pO hE (fun s1 hs=>?_) (tL hE h2 h3 hk)
   obtain ⟨hs1,hs2⟩:=hs
   refine aF9 hE okp axp (fun q' hq'=>h q' (List.mem_cons_of_mem _ hq')) hd'.2 (hs2 _ _ tp h4) (fun q' hq'=>?_) hs1
   exact hs2 _ _ (tq q' (List.mem_cons_of_mem _ hq')) (hd'.1 q' hq')
  exact swap hE h1 h2 h3 okp axp (tq q (by simp)) tp h4 e1
end
section
variable {P:Program} {F:Nat→FuncId} {B np:Nat} {w0 w w':World} {ext:List Nat} {σ0:Og} {G G':Gh} {s:St} {a:Act} {ft:FT} {lo hi:Nat} {E:Env}
theorem EnvOk.mf (h:EnvOk P F E):fB E:=fun j C hj=>⟨(h.2 j C hj).mono,(h.2 j C hj).feas⟩
structure AOR (P:Program) (ft:FT) (np:Nat) (ops:Array Oper) (o:Oper) (ao:AO):Prop where
 tr:aBY P ft np o=some (ao.op,ao.args)
 dst:ao.dst=o.dst
 guard:trG ops o.guard=some ao.guard
 ok:jE ao.op=true
 ax:ao.args.all mG=true
theorem iN {ops:Array Oper}:∀ {l:List Oper} {at_ n:Nat} {as:List AO},tV P ft np ops l at_=some (as,n)→l.length=as.length∧at_≤n ∧
  (∀ (i:Nat) (o:Oper) (ao:AO),l[i]? = some o→as[i]? = some ao→AOR P ft np ops o ao∧at_≤ao.id∧ao.id+bD ao.op≤n)∧as.Pairwise fun x y=>x.id+bD x.op≤y.id
 | [],at_,n,as,h=>by
  simp only [tV,Option.some.injEq,Prod.mk.injEq] at h
  obtain ⟨rfl,rfl⟩:=h
  exact ⟨rfl,Nat.le_refl _,fun i o ao h=>by simp at h,List.Pairwise.nil⟩
 | o::l,at_,n,as,h=>by
  simp only [tV] at h
  split at h
  ·rename_i ap xs g h1 h2
   cases hb:(jE ap&&xs.all mG) with
   | false=>rw [hb] at h; cases h
   | true =>
    rw [hb] at h
    simp only [cond_true] at h
    split at h
    ·rename_i as' n' h3
     cases h
     obtain ⟨e1,e2,e3,e4⟩:=iN h3
     simp only [Bool.and_eq_true] at hb
     refine ⟨by simp [e1],by omega,fun i o' ao hi ha=>?_,List.pairwise_cons.2 ⟨fun x hx=>?_,e4⟩⟩
     ·cases i with
      | zero =>
       simp only [List.getElem?_cons_zero,Option.some.injEq] at hi ha
       subst hi ha
       exact ⟨⟨h1,rfl,h2,hb.1,hb.2⟩,Nat.le_refl _,e2⟩
      | succ i =>
       obtain ⟨e5,e6,e7⟩:=e3 i o' ao (by simpa using hi) (by simpa using ha)
       exact ⟨e5,by omega,e7⟩
     ·obtain ⟨j,hj,rfl⟩:=List.mem_iff_getElem.1 hx
      have hj':j < l.length:=by omega
      exact (e3 j l[j] as'[j] (List.getElem?_eq_getElem hj') (List.getElem?_eq_getElem hj)).2.1
    ·cases h
  ·cases h
theorem aJR (hE:EnvOk P F E) (hft:∀ f j,ag ft f=some j→F j=f) (r:Rel F B np w0 ext σ0 G s a w) {ops:Array Oper} {o:Oper} {ao:AO} (hao:AOR P ft np ops o ao) (hnp:np≤ao.id) (hcl:Clean ao.id (ao.id+bD ao.op) s) {K:St→Prop} (h:gOp E ao s K)
  {next:Act→World→Prop} {Q:Exit→Act→World→Prop} (hn:∀ s' a' w' G',K s'→Rel F B np w0 ext σ0 G' s' a' w'→(∀ lo hi,Clean lo hi s→(ao.id+bD ao.op≤lo∨hi≤ao.id)→Clean lo hi s')→next a' w') :
  if Region.wanted o (yielded ops a.tmps) then o.wp P a w next Q else next (a.put o.dst undef) w:=by
 rw [gE] at h
 have run:step E ao.op ao.id s.hp s.tk (evs s.fr ao.args) (fun v u=>K (s.next ao.dst v u))→o.wp P a w next Q:=fun hs =>
  aHE hE hft r hao.tr hao.ok hao.ax hnp hcl hs fun v u v' G' w' hk r' hc=>hn _ _ w' G' (hao.dst ▸ hk) r' hc
 unfold iS at h
 have hg:=hao.guard
 unfold trG at hg
 cases hog:o.guard with
 | none =>
  rw [hog] at hg
  simp only [Option.some.injEq] at hg
  rw [← hg] at h
  have:Region.wanted o (yielded ops a.tmps)=true:=by simp [Region.wanted,hog]
  rw [if_pos this]
  exact run h
 | some jw =>
  obtain ⟨j,wt⟩:=jw
  rw [hog] at hg
  simp only at hg
  cases hd:(ops[j]?).bind (·.dst) with
  | none=>rw [hd] at hg; cases hg
  | some d =>
   rw [hd] at hg
   simp only [Option.some.injEq] at hg
   rw [← hg] at h
   simp only [rI,← hg] at h
   have skip:K (s.next o.dst (.tup []) Upd.none)→next (a.put o.dst undef) w:=fun h=>by
    have r':=r.put hnp hcl (Keeps.refl _ _ G s.tk) r.mem (Rd.tup #[] [] rfl fun j hj=>by simp at hj) o.dst
    refine hn _ _ w G h r' fun lo hi hc _=>?_
    exact hc.after (v:=.tup []) rfl (fun x hx=>by simp [Upd.none] at hx) (fun x hx=>by simp [Upd.none] at hx) o.dst
   rw [hao.dst] at h
   cases hb:nth s.fr d .dead with
   | bool b =>
    rw [hb] at h
    simp only [gw] at h
    have hdl:d < s.fr.length:=by
     rcases Nat.lt_or_ge d s.fr.length with h1 | h1
     ·exact h1
     ·rw [gO s.fr _ h1] at hb; cases hb
    have hr:=r.slots d hdl
    rw [hb] at hr
    have hv:=hr.bool_inv
    have hy:yielded ops a.tmps j=some b:=by
     have hsz:d < a.tmps.size:=by rw [r.size]; exact hdl
     unfold yielded
     rw [hd]
     have:a.tmps[d]? = some (.bool b):=by
      rw [Array.getElem?_eq_getElem hsz]
      rw [Array.getD_eq_getD_getElem?,Array.getElem?_eq_getElem hsz] at hv
      simpa using hv
     simp [this]
    by_cases hw:b=wt
    ·have e:(b==wt)=true:=by rw [hw]; exact beq_self_eq_true _
     rw [e] at h
     have:Region.wanted o (yielded ops a.tmps)=true:=by simp [Region.wanted,hog,hy,hw]
     rw [if_pos this]
     exact run (hao.dst ▸ h)
    ·have e:(b==wt)=false:=beq_false_of_ne hw
     rw [e] at h
     have:¬(Region.wanted o (yielded ops a.tmps)=true):=by simp [Region.wanted,hog,hy,hw]
     rw [if_neg this]
     exact skip h
   | tup l =>
    cases l with
    | cons x l=>rw [hb] at h; exact h.elim
    | nil =>
     rw [hb] at h
     simp only [gw] at h
     have hdl:d < s.fr.length:=by
      rcases Nat.lt_or_ge d s.fr.length with h1 | h1
      ·exact h1
      ·rw [gO s.fr _ h1] at hb; cases hb
     have hr:=r.slots d hdl
     rw [hb] at hr
     have hv:a.tmps.getD d undef=.tuple #[]:=by
      generalize a.tmps.getD d undef=v at hr
      cases hr with
      | any hr=>cases hr with
       | cell hr=>cases hr with
        | pure hr _=>cases hr
      | tup vs l hs _ =>
       have:vs=#[]:=Array.eq_empty_of_size_eq_zero (by simpa using hs)
       rw [this]
     have hy:yielded ops a.tmps j=none:=by
      have hsz:d < a.tmps.size:=by rw [r.size]; exact hdl
      unfold yielded
      rw [hd]
      have:a.tmps[d]? = some (.tuple #[]):=by
       rw [Array.getElem?_eq_getElem hsz]
       rw [Array.getD_eq_getD_getElem?,Array.getElem?_eq_getElem hsz] at hv
       simpa using hv
      simp [this]
     have:¬(Region.wanted o (yielded ops a.tmps)=true):=by simp [Region.wanted,hog,hy]
     rw [if_neg this]
     exact skip h
   | _=>rw [hb] at h; exact h.elim
theorem wX (hE:EnvOk P F E) (hft:∀ f j,ag ft f=some j→F j=f) {ops:Array Oper} {A:Nat→AO} (hA:∀ (i:Nat) (o:Oper),ops[i]? = some o→AOR P ft np ops o (A i)) {K:St→Prop} {Q:Exit→Act→World→Prop} :
  ∀ (js:List Nat) {s:St} {a:Act} {w:World} {G:Gh},(∀ j∈js,j < ops.size)→(∀ j∈js,np≤(A j).id)→(js.map A).Pairwise Dis→Rel F B np w0 ext σ0 G s a w→(∀ j∈js,Clean (A j).id ((A j).id+bD (A j).op) s)→kN E (js.map A) s K →
  (∀ s' a' w' G',K s'→Rel F B np w0 ext σ0 G' s' a' w'→(∀ lo hi,Clean lo hi s→(∀ j∈js,(A j).id+bD (A j).op≤lo∨hi≤(A j).id)→Clean lo hi s')→Q .normal a' w')→wpOps P ops Q js a w
 | [],s,a,w,G,_,_,_,r,_,hk,hn=>hn s a w G hk r fun lo hi hc _=>hc
 | j::js,s,a,w,G,hlt,hnp,hd,r,hcl,hk,hn=>by
  have hj:=hlt j (by simp)
  have ho:ops[j]? = some ops[j]:=Array.getElem?_eq_getElem hj
  rw [List.map_cons] at hd
  have hd':=List.pairwise_cons.1 hd
  have:=aJR (Q:=Q) (next:=wpOps P ops Q js) hE hft r (hA j _ ho) (hnp j (by simp)) (hcl j (by simp)) hk fun s' a' w' G' hk' r' hc =>
   wX hE hft hA js (fun i hi=>hlt i (List.mem_cons_of_mem _ hi)) (fun i hi=>hnp i (List.mem_cons_of_mem _ hi)) hd'.2 r' (fun i hi=>hc _ _ (hcl i (List.mem_cons_of_mem _ hi)) (hd'.1 _ (List.mem_map_of_mem hi))) hk'
    fun s2 a2 w2 G2 hk2 r2 hc2=>hn s2 a2 w2 G2 hk2 r2 fun lo hi h0 hdis=>hc2 lo hi (hc lo hi h0 (hdis j (by simp))) fun i hi=>hdis i (List.mem_cons_of_mem _ hi)
  simp only [wpOps,ho]
  split
  ·rename_i hw
   rw [if_pos hw] at this
   exact .inl this
  ·rename_i hw
   rw [if_neg hw] at this
   exact this
end
section
variable {E:Env} {ops:Array Oper} {A:Nat→AO} {s:St} {K:St→Prop}
def bL (listed:Array Bool) (i:Nat):Bool:=listed.getD i false
def rem (n:Nat) (listed:Array Bool):List Nat:=(List.range n).filter fun i=>!bL listed i
def aB5 (ops:Array Oper) (listed:Array Bool):Prop:=∀ (j:Nat) (o:Oper),ops[j]? = some o→bL listed j=true→∀ e∈o.after.toList,Region.binds .any e=true→bL listed e.on=true
theorem nX {listed:Array Bool} {i j:Nat} (hi:i < listed.size):bL (listed.setIfInBounds i true) j=(j==i || bL listed j):=by
 unfold bL
 simp only [Array.getD_eq_getD_getElem?]
 by_cases h:i=j
 ·subst h
  simp [hi]
 ·have:(j==i)=false:=by simp; exact fun h'=>h h'.symm
  rw [Array.getElem?_setIfInBounds_ne h,this]
  rfl
theorem eJ {n:Nat} {listed:Array Bool} {i:Nat}:i∈rem n listed↔i < n∧bL listed i=false:=by
 simp [rem,List.mem_filter]
theorem kO (n:Nat) (listed:Array Bool):(rem n listed).Pairwise (· < ·):=List.Pairwise.filter _ (List.pairwise_lt_range)
theorem pZ {n:Nat} {listed:Array Bool} {i:Nat} (hi:i < listed.size):rem n (listed.setIfInBounds i true)=(rem n listed).filter (· != i):=by
 unfold rem
 rw [List.filter_filter]
 congr 1
 funext j
 rw [nX hi]
 cases hji:(j==i) <;> cases hl:bL listed j <;> simp_all [bne]
theorem pG {l1 l2:List Nat} {i:Nat} (h:(l1++i::l2).Pairwise (· < ·)):(l1++i::l2).filter (· != i)=l1++l2∧∀ q∈l1,q < i:=by
 rw [List.pairwise_append] at h
 obtain ⟨_,h2,h3⟩:=h
 have h4:=List.pairwise_cons.1 h2
 have e1:∀ q∈l1,q < i:=fun q hq=>h3 q hq i (by simp)
 refine ⟨?_,e1⟩
 rw [List.filter_append,List.filter_cons]
 have f1:l1.filter (· != i)=l1:=List.filter_eq_self.2 fun q hq=>by have:=e1 q hq; simp; omega
 have f2:l2.filter (· != i)=l2:=List.filter_eq_self.2 fun q hq=>by have:=h4.1 q hq; simp; omega
 rw [f1,f2]
 simp
theorem kP {listed:Array Bool} (hc:aB5 ops listed):∀ (f i q:Nat) (o:Oper),ops[i]? = some o→(∀ e∈o.after.toList,Region.binds .any e=true→bL listed e.on=true)→(∀ j,bL listed j=true→j < ops.size)→iC ops f i q=true→bL listed q=true
 | 0,i,q,o,_,_,_,h=>by simp [iC] at h
 | f+1,i,q,o,ho,ha,hb,h=>by
  simp only [iC,ho,List.any_eq_true,Bool.and_eq_true,Bool.or_eq_true] at h
  obtain ⟨e,he,h1,h2⟩:=h
  have h3:=ha e he h1
  rcases h2 with h2 | ⟨_,h2⟩
  ·have:e.on=q:=by simpa using h2
   rw [← this]
   exact h3
  ·have hlt:=hb _ h3
   exact kP hc f e.on q ops[e.on] (Array.getElem?_eq_getElem hlt) (hc e.on _ (Array.getElem?_eq_getElem hlt) h3) hb h2
theorem nN:∀ {l:List Oper} {i:Nat},eQ l i=true→∀ (j:Nat) (o:Oper),l[j]? = some o→∀ e∈o.after.toList,Region.binds .any e=true→e.on < i+j
 | [],_,_,j,o,h=>by simp at h
 | o'::l,i,hb,j,o,h=>by
  simp only [eQ,Bool.and_eq_true,List.all_eq_true] at hb
  cases j with
  | zero =>
   simp only [List.getElem?_cons_zero,Option.some.injEq] at h
   subst h
   intro e he hbi
   have:=hb.1 e he
   rw [hbi] at this
   simpa using this
  | succ j =>
   intro e he hbi
   have:=nN hb.2 j o (by simpa using h) e he hbi
   omega
theorem kF {listed:Array Bool} (hsz:listed.size=ops.size) {i:Nat}:i∈Region.ready .any ops listed↔i∈rem ops.size listed∧∃ o,ops[i]? = some o∧∀ e∈o.after.toList,Region.binds .any e=true→bL listed e.on=true:=by
 unfold Region.ready
 rw [List.mem_filter,eJ,List.mem_range]
 constructor
 ·rintro ⟨h1,h2⟩
  have ho:ops[i]? = some ops[i]:=Array.getElem?_eq_getElem h1
  rw [ho] at h2
  simp only [Option.map_some,Option.getD_some,Bool.and_eq_true,Bool.not_eq_true'] at h2
  have hl:listed[i]? = some listed[i]:=Array.getElem?_eq_getElem (by omega)
  refine ⟨⟨h1,?_⟩,ops[i],ho,fun e he hb=>?_⟩
  ·have:=h2.1
   simp only [Array.getD_eq_getD_getElem?,hl,Option.getD_some] at this
   simp only [bL,Array.getD_eq_getD_getElem?,hl,Option.getD_some]
   exact this
  ·have h3:=Array.all_eq_true_iff_forall_mem.1 h2.2 e (Array.mem_toList_iff.1 he)
   rw [hb] at h3
   simpa [bL] using h3
 ·rintro ⟨⟨h1,h2⟩,o,ho,h3⟩
  have hl:listed[i]? = some listed[i]:=Array.getElem?_eq_getElem (by omega)
  refine ⟨h1,?_⟩
  rw [ho]
  simp only [Option.map_some,Option.getD_some,Bool.and_eq_true,Bool.not_eq_true']
  refine ⟨?_,Array.all_eq_true_iff_forall_mem.2 fun e he=>?_⟩
  ·simp only [bL,Array.getD_eq_getD_getElem?,hl,Option.getD_some] at h2
   simp only [Array.getD_eq_getD_getElem?,hl,Option.getD_some]
   exact h2
  ·cases hb:Region.binds .any e with
   | false=>rfl
   | true=>simpa [bL] using h3 e (Array.mem_toList_iff.2 he) hb
theorem xQ (fuel t:Nat) (listed:Array Bool):Region.linearise.go .any ops (fuel+1) t listed []=match (Region.ready .any ops listed)[t % (Region.ready .any ops listed).length]? with
  | some i=>i::Region.linearise.go .any ops fuel (t / (Region.ready .any ops listed).length) (listed.setIfInBounds i true) []
  | none=>[]:=by
 simp only [Region.linearise.go]
 change (match (Region.ready .any ops listed)[t % (Region.ready .any ops listed).length]? with
   | some i=>Region.linearise.go .any ops fuel (t / (Region.ready .any ops listed).length) (listed.setIfInBounds i true) [i]
   | none=>[].reverse)=_
 split
 ·rw [linearise_go_acc]
  simp
 ·rfl
theorem vP {l:List Nat} {t:Nat} (h:l[t % l.length]? = none):l=[]:=by
 cases l with
 | nil=>rfl
 | cons x xs =>
  have hlt:t % (x::xs).length < (x::xs).length:=Nat.mod_lt _ (by simp)
  rw [List.getElem?_eq_getElem hlt] at h
  cases h
theorem uF {listed:Array Bool} (hsz:listed.size=ops.size) (hb:eQ ops.toList 0=true) (h:Region.ready .any ops listed=[]):rem ops.size listed=[]:=by
 cases hr:rem ops.size listed with
 | nil=>rfl
 | cons m l =>
  have hm:m∈rem ops.size listed:=by rw [hr]; simp
  have hlt:=(eJ.1 hm).1
  have ho:ops[m]? = some ops[m]:=Array.getElem?_eq_getElem hlt
  have:m∈Region.ready .any ops listed:=(kF hsz).2 ⟨hm,ops[m],ho,fun e he hbi=>by
   have h1:=nN hb m ops[m] (by rw [Array.getElem?_toList]; exact ho) e he hbi
   cases hl:bL listed e.on with
   | true=>rfl
   | false =>
    have h2:e.on∈rem ops.size listed:=eJ.2 ⟨by omega,hl⟩
    have h3:=kO ops.size listed
    rw [hr] at h2 h3
    simp only [List.mem_cons] at h2
    rcases h2 with h2 | h2
    ·omega
    ·have:=(List.pairwise_cons.1 h3).1 _ h2
     omega⟩
  rw [h] at this
  cases this
theorem aC0:∀ (fuel t:Nat) (listed:Array Bool),listed.size=ops.size→(Region.linearise.go .any ops fuel t listed []).Nodup∧∀ j∈Region.linearise.go .any ops fuel t listed [],j∈rem ops.size listed
 | 0,t,listed,_=>by simp [Region.linearise.go]
 | fuel+1,t,listed,hsz=>by
  rw [xQ]
  split
  ·rename_i i hi
   have hm:=((kF hsz).1 (List.mem_of_getElem? hi)).1
   have hlt:=(eJ.1 hm).1
   obtain ⟨h1,h2⟩:=aC0 fuel (t / (Region.ready .any ops listed).length) (listed.setIfInBounds i true) (by simp [hsz])
   have h3:∀ j,j∈rem ops.size (listed.setIfInBounds i true)→j∈rem ops.size listed∧j≠i:=fun j hj=>by
    rw [pZ (by omega),List.mem_filter] at hj
    exact ⟨hj.1,by simpa using hj.2⟩
   refine ⟨List.nodup_cons.2 ⟨fun h=>(h3 i (h2 i h)).2 rfl,h1⟩,fun j hj=>?_⟩
   simp only [List.mem_cons] at hj
   rcases hj with rfl | hj
   ·exact hm
   ·exact (h3 j (h2 j hj)).1
  ·simp
theorem zF (hE:fB E) (hb:eQ ops.toList 0=true) (hap:∀ i j,i < j→j < ops.size→Apart (A i) (A j)∨iC ops ops.size j i=true) (hdis:∀ i j,i < j→j < ops.size→Dis (A i) (A j))
  (hok:∀ i,i < ops.size→jE (A i).op=true∧(A i).args.all mG=true):∀ (fuel t:Nat) (listed:Array Bool) (s:St),listed.size=ops.size→aB5 ops listed→(rem ops.size listed).length≤fuel →
  (∀ j∈rem ops.size listed,Tidy (A j).id ((A j).id+bD (A j).op) s)→kN E ((rem ops.size listed).map A) s K→kN E ((Region.linearise.go .any ops fuel t listed []).map A) s K
 | 0,t,listed,s,hsz,hc,hf,ht,hk=>by
  have:rem ops.size listed=[]:=List.length_eq_zero_iff.1 (by omega)
  rw [this] at hk
  simpa [Region.linearise.go] using hk
 | fuel+1,t,listed,s,hsz,hc,hf,ht,hk=>by
  rw [xQ]
  split
  ·rename_i i hi
   obtain ⟨hm,o,ho,hafter⟩:=(kF hsz).1 (List.mem_of_getElem? hi)
   have hlt:=(eJ.1 hm).1
   obtain ⟨l1,l2,hL⟩:=List.append_of_mem hm
   have hs:=kO ops.size listed
   rw [hL] at hs
   obtain ⟨hfil,hl1⟩:=pG hs
   have hset:rem ops.size (listed.setIfInBounds i true)=l1++l2:=by rw [pZ (by omega),hL,hfil]
   have hbd:∀ j,bL listed j=true→j < ops.size:=fun j hj=>by
    rcases Nat.lt_or_ge j ops.size with h | h
    ·exact h
    ·have:listed[j]? = none:=Array.getElem?_eq_none (by omega)
     simp [bL,this] at hj
   have hmem1:∀ q∈l1,q∈rem ops.size listed:=fun q hq=>by rw [hL]; simp [hq]
   have hmem2:∀ q∈l1++l2,q∈rem ops.size listed:=fun q hq=>by
    rw [hL]
    simp only [List.mem_append,List.mem_cons] at hq ⊢
    rcases hq with hq | hq
    ·exact .inl hq
    ·exact .inr (.inr hq)
   have hne:∀ q∈l1++l2,q≠i:=fun q hq=>by
    have:q∈rem ops.size (listed.setIfInBounds i true):=by rw [hset]; exact hq
    rw [pZ (by omega),List.mem_filter] at this
    simpa using this.2
   have hpair:(l1++l2).Pairwise (· < ·):=by
    rw [← hset]
    exact kO _ _
   have hD:∀ q j,q≠j→q < ops.size→j < ops.size→Dis (A q) (A j):=fun q j h1 h2 h3=>by
    rcases Nat.lt_or_ge q j with h | h
    ·exact hdis q j h h3
    ·have:=hdis j q (by omega) h2
     exact this.symm
   rw [hL,List.map_append,List.map_cons] at hk
   have hbr:=aF9 (p:=A i) hE (hok i hlt).1 (hok i hlt).2 (l1:=l1.map A) (l2:=l2.map A) (s:=s) (K:=K) (fun q hq=>by
    obtain ⟨j,hj,rfl⟩:=List.mem_map.1 hq
    have hjm:=eJ.1 (hmem1 j hj)
    refine ⟨?_,(hok j hjm.1).1,(hok j hjm.1).2,hD j i (fun h=>by have:=hl1 j hj; omega) hjm.1 hlt⟩
    rcases hap j i (hl1 j hj) hlt with h | h
    ·exact h
    ·have:=kP hc _ i j o ho hafter hbd h
     rw [hjm.2] at this
     cases this) (by
    refine List.pairwise_map.2 ((List.pairwise_append.1 hpair).1.imp_of_mem fun ha hb' hab=>?_)
    exact hD _ _ (by omega) (eJ.1 (hmem1 _ ha)).1 (eJ.1 (hmem1 _ hb')).1) (ht i hm) (fun q hq=>by
    obtain ⟨j,hj,rfl⟩:=List.mem_map.1 hq
    exact ht j (hmem1 j hj)) hk
   rw [List.map_cons]
   refine pO hE (fun s1 h1=>?_) (tL hE (hok i hlt).1 (hok i hlt).2 hbr)
   obtain ⟨h1,h2⟩:=h1
   refine zF hE hb hap hdis hok fuel _ (listed.setIfInBounds i true) s1 (by simp [hsz]) (fun j o' ho' hj e he hbi=>?_) ?_ (fun j hj=>?_) ?_
   ·rw [nX (by omega)] at hj ⊢
    simp only [Bool.or_eq_true,beq_iff_eq] at hj ⊢
    rcases hj with rfl | hj
    ·rw [ho] at ho'
     cases ho'
     exact .inr (hafter e he hbi)
    ·exact .inr (hc j o' ho' hj e he hbi)
   ·rw [hset]
    rw [hL] at hf
    simp only [List.length_append,List.length_cons] at hf ⊢
    omega
   ·rw [hset] at hj
    exact h2 _ _ (ht j (hmem2 j hj)) (hD i j (fun h=>hne j hj h.symm) hlt (eJ.1 (hmem2 j hj)).1)
   ·rw [hset,List.map_append]
    exact h1
  ·rename_i hn
   have:=uF hsz hb (vP hn)
   rw [this] at hk
   exact hk
end
section
variable {P:Program} {F:Nat→FuncId} {B np:Nat} {w0 w w':World} {ext:List Nat} {σ0:Og} {G G':Gh} {s:St} {a:Act} {ft:FT} {lo hi:Nat} {E:Env} {hp hp':Nat→Option (Bool×List D)} {tk tk':Nat→Option (Nat×Nat)}
theorem n9 (d:D):d.names 0 0=false:=by
 cases d with
 | agg l=>exact dY fun j _=>bG _
 | tup l=>exact dY fun j _=>bG _
 | slice t z n g=>exact bG (.slice t z n g)
 | ptr j o=>exact bG (.ptr j o)
 | _=>rfl
theorem Mem.restrict (m:Mem F B np w0 ext σ0 G hp tk w) (h1:∀ i e,hp' i=some e→hp i=some e) (h2:∀ i e,tk' i=some e→tk i=some e):Mem F B np w0 ext σ0 G hp' tk' w:=by
 have k:Keeps 0 0 G G tk tk':=⟨SgLe.refl _,fun _ _=>rfl,fun i z m' _ h=>⟨z,m',h2 i _ h,Nat.le_refl _,fun _=>rfl⟩,fun _ _ _ _ e=>e⟩
 have ho:∀ b j,bO G hp' tk' b j→bO G hp tk b j:=by
  intro b j h
  cases j with
  | inl id=>obtain ⟨cs,e1,e2⟩:=h; exact ⟨cs,h1 _ _ e1,e2⟩
  | inr i=>obtain ⟨z,n,c,e1,e2,e3⟩:=h; exact ⟨z,n,c,h2 _ _ e1,e2,e3⟩
 refine ⟨m.stab,m.old,m.os,m.tape,m.output,m.base,m.keep,fun id cs h hna=>?_,fun id fw z n g h=>m.rows id fw z n g (h1 _ _ h),fun id cs h=>m.froz id cs (h1 _ _ h),fun i z n h=>m.toks i z n (h2 _ _ h),fun b j j' h h'=>m.own1 b j j' (ho b j h) (ho b j' h'),fun b j h=>m.own2 b j (ho b j h),fun b r h=>⟨(m.resv b r h).1,fun j hj=>(m.resv b r h).2.1 j (ho b j hj),(m.resv b r h).2.2⟩,fun id x va n ks vs h hx=>m.lins id x va n ks vs (h1 _ _ h) hx⟩
 obtain ⟨o1,e2,e4,e5⟩:=m.vars id cs (h1 _ _ h) hna
 exact ⟨o1,e2,e4.imp fun j v hj hr=>hr.keep k (bG _),e5⟩
theorem pJ:∀ {l:List Nat} {i:Nat} {e:Bool×List D},ag (lG hp l) i=some e→hp i=some e
 | [],i,e,h=>by simp [lG,ag] at h
 | j::l,i,e,h=>by
  simp only [lG] at h
  cases hj:hp j with
  | none=>rw [hj] at h; exact pJ h
  | some x =>
   rw [hj] at h
   simp only [ag] at h
   cases hb:Nat.beq i j with
   | true =>
    rw [hb] at h
    have:=Nat.eq_of_beq_eq_true hb
    subst this
    rw [hj]
    exact h
   | false=>rw [hb] at h; exact pJ h
theorem l5:∀ {l:List Nat} {i:Nat} {e:Nat×Nat},ag (jX tk l) i=some e→tk i=some e
 | [],i,e,h=>by simp [jX,ag] at h
 | j::l,i,e,h=>by
  simp only [jX] at h
  cases hj:tk j with
  | none=>rw [hj] at h; exact l5 h
  | some x =>
   rw [hj] at h
   simp only [ag] at h
   cases hb:Nat.beq i j with
   | true =>
    rw [hb] at h
    have:=Nat.eq_of_beq_eq_true hb
    subst this
    rw [hj]
    exact h
   | false=>rw [hb] at h; exact l5 h
theorem mO {α:Type}:∀ {l:List (Nat×α)} {i:Nat} {e:α},ag l i=some e→(i,e)∈l
 | [],_,_,h=>by simp [ag] at h
 | (j,x)::l,i,e,h=>by
  simp only [ag] at h
  cases hb:Nat.beq i j with
  | true =>
   rw [hb] at h
   have:=Nat.eq_of_beq_eq_true hb
   subst this
   cases h
   simp
  | false=>rw [hb] at h; exact List.mem_cons_of_mem _ (mO h)
theorem g9 (ks:List Nat) (fr:List D):(kills ks fr).length=fr.length:=by
 induction ks generalizing fr with
 | nil=>rfl
 | cons i l ih=>simp only [kills,ih,bU]
theorem vI (ks:List Nat) (fr:List D) (j:Nat):nth (kills ks fr) j .dead=nth fr j .dead∨nth (kills ks fr) j .dead=.dead:=by
 induction ks generalizing fr with
 | nil=>exact .inl rfl
 | cons i l ih =>
  simp only [kills]
  rcases ih (upd fr i .dead) with h | h
  ·rw [h,eT]
   split
   ·exact .inr rfl
   ·exact .inl rfl
  ·exact .inr h
theorem sV {l:List (Nat×Bool×List D)} (h:iD lo hi l=false):∀ x∈l,¬(lo≤x.1∧x.1 < hi)∧names lo hi x.2.2=false:=by
 induction l with
 | nil=>simp
 | cons e l ih =>
  obtain ⟨i,f,cs⟩:=e
  simp only [iD] at h
  cases h1:(Nat.ble lo i&&Nat.blt i hi) with
  | true=>rw [h1] at h; cases h
  | false =>
   rw [h1] at h
   cases h2:names lo hi cs with
   | true=>rw [h2] at h; cases h
   | false =>
    rw [h2] at h
    intro x hx
    simp only [List.mem_cons] at hx
    rcases hx with rfl | hx
    ·exact ⟨bR h1,h2⟩
    ·exact ih h x hx
theorem s9 {l:List (Nat×Nat×Nat)} (h:iH lo hi l=false):∀ x∈l,¬(lo≤x.1∧x.1 < hi):=by
 induction l with
 | nil=>simp
 | cons e l ih =>
  obtain ⟨i,f⟩:=e
  simp only [iH] at h
  cases h1:(Nat.ble lo i&&Nat.blt i hi) with
  | true=>rw [h1] at h; cases h
  | false =>
   rw [h1] at h
   intro x hx
   simp only [List.mem_cons] at hx
   rcases hx with rfl | hx
   ·exact bR h1
   ·exact ih h x hx
theorem fA {d:D} {mid h:Nat} (h1:d.names1 lo mid=false) (h2:d.names1 mid h=false):d.names1 lo h=false:=by
 cases d with
 | ptr j o =>
  have e1:=bR h1
  have e2:=bR h2
  exact a7 (by omega)
 | mref j =>
  have e1:=bR h1
  have e2:=bR h2
  exact a7 (by omega)
 | msl j z n =>
  have e1:=bR h1
  have e2:=bR h2
  exact a7 (by omega)
 | rptr j z n i o =>
  have e1:=bR h1
  have e2:=bR h2
  exact a7 (by omega)
 | slice t z n g =>
  cases t with
  | own j =>
   have e1:=bR h1
   have e2:=bR h2
   exact a7 (by omega)
  | _=>rfl
 | _=>rfl
theorem j7 {l:List D} {mid h:Nat} (h1:names lo mid l=false) (h2:names mid h l=false):names lo h l=false :=
 aU.2 fun d hd=>fA (aU.1 h1 d hd) (aU.1 h2 d hd)
theorem pP {d:D} {mid h:Nat} (h1:d.names lo mid=false) (h2:d.names mid h=false):d.names lo h=false:=by
 cases d with
 | agg l=>exact j7 (l:=l) h1 h2
 | tup l=>exact j7 (l:=l) h1 h2
 | ptr j o=>exact fA (d:=.ptr j o) h1 h2
 | slice t z n g=>exact fA (d:=.slice t z n g) h1 h2
 | mref j=>exact fA (d:=.mref j) h1 h2
 | msl j z n=>exact fA (d:=.msl j z n) h1 h2
 | rptr j z n i o=>exact fA (d:=.rptr j z n i o) h1 h2
 | _=>rfl
theorem Clean.sub {lo' hi':Nat} (h:Clean lo hi s) (h1:lo≤lo') (h2:hi'≤hi):Clean lo' hi' s :=
 ⟨fun i hi=>q5 (h.fr i hi) h1 h2,fun i f cs hx=>⟨fun hh=>(h.hp i f cs hx).1 ⟨by omega,by omega⟩,cT (h.hp i f cs hx).2 h1 h2⟩,fun i e hx hh=>h.tk i e hx ⟨by omega,by omega⟩⟩
theorem DEq.rp {d d':D} (e:DEq d d'):∀ {σ:Sg} {v:Value},Rp σ v d.pure1→Rp σ v d'.pure1:=by
 induction e with
 | refl d=>exact fun h=>h
 | dead d=>exact fun _=>.dead _
 | slice t t' z n g h ht hl _ ih =>
  intro σ v r
  cases r with
  | slice a _ c _ _ _ b o val h1 h2 h3 h4 h5 =>
   exact .slice a n c .ro z h b o val h1 h2 (fun i hi=>by rw [← hl i hi]; exact h3 i hi) h4 fun i j hi hj=>ih i hi j (h5 i j hi hj)
 | agg l l' _ _ _=>exact fun _=>.dead _
 | eptr l l' _ _ _=>exact fun _=>.dead _
 | fn f l l' _ _ _=>exact fun _=>.dead _
 | mp=>exact fun _=>.dead _
 | newp=>exact fun _=>.dead _
 | arr=>exact fun _=>.dead _
theorem DEq.rp0 {σ:Sg} {v:Value} {d d':D} (e:DEq d d') (r:Rp σ v d):Rp σ v d':=by
 cases e with
 | refl=>exact r
 | dead=>exact .dead _
 | slice t t' z n g h ht hl he =>
  cases r with
  | slice a _ c _ _ _ b o val h1 h2 h3 h4 h5 =>
   exact .slice a n c t' z h b o val h1 h2 (fun i hi=>by rw [← hl i hi]; exact h3 i hi) h4 fun i j hi hj=>(he i hi j).rp (h5 i j hi hj)
 | agg l l' _ _=>cases r
 | eptr l l' _ _=>cases r
 | fn f l l' _ _=>cases r
 | mp=>cases r
 | newp=>cases r
 | arr=>cases r
theorem DEq.pure {σ:Sg} {v:Value} {d d':D} (e:DEq d d') (r:Rp σ v d) (h:d=d.pure1):d'=d'.pure1:=by
 cases e with
 | refl=>exact h
 | dead=>rfl
 | slice t t' z n g k ht hl he =>
  cases t with
  | ro=>rcases ht with rfl | rfl <;> rfl
  | full=>cases h
  | own i=>cases h
 | agg l l' _ _=>cases r
 | eptr l l' _ _=>cases r
 | fn f l l' _ _=>cases r
 | mp=>cases r
 | newp=>cases r
 | arr=>cases r
theorem DEq.tag {G:Gh} {tk:Nat→Option (Nat×Nat)} {v:Value} {d d':D} (e:DEq d d') (h:TagR G tk v d):TagR G tk v d':=by
 cases e with
 | refl=>exact h
 | dead=>trivial
 | slice t t' z n g k ht hl he =>
  rcases ht with rfl | rfl
  ·cases t' with
   | ro=>trivial
   | full=>exact h
   | own i=>exact h
  ·trivial
 | agg l l' _ _=>trivial
 | eptr l l' _ _=>trivial
 | fn f l l' _ _=>trivial
 | mp=>trivial
 | newp=>trivial
 | arr=>trivial
theorem EAt.deq {σ:Sg} {b o:Nat} {l l':List D} (hl:l.length=l'.length) (he:∀ j,DEq (nth l j .dead) (nth l' j .dead)) (h:EAt σ b o l):EAt σ b o l':=fun j hj=>by
 obtain ⟨v,h1,h2⟩:=h j (by omega)
 exact ⟨v,h1,(he j).rp h2⟩
theorem DEq.re {σ:Sg} {v:Value} {d d':D} (e:DEq d d') (r:Re σ v d):Re σ v d':=by
 cases r with
 | pure r h=>exact .pure (e.rp0 r) (e.pure r h)
 | eptr b o l h =>
  cases e with
  | refl=>exact .eptr b o l h
  | dead=>exact .pure (.dead _) rfl
  | eptr _ l' hl he=>exact .eptr b o l' (h.deq hl he)
theorem CellsV.deq {σ:Sg} {va:Bool} {v:Value} {l l':List D} (h:CellsV σ va v l) (e:DEqs l l'):CellsV σ va v l':=by
 rcases h with ⟨h1,cs,h2,h3,h4⟩ | ⟨h1,h2,h3⟩
 ·exact .inl ⟨h1,cs,h2,h3.trans e.1,fun j hj=>(e.2 j).rp (h4 j (by rw [e.1]; exact hj))⟩
 ·exact .inr ⟨h1,by rw [← e.1]; exact h2,(e.2 0).rp h3⟩
theorem DEq.rc {F:Nat→FuncId} {G:Gh} {tk:Nat→Option (Nat×Nat)} {v:Value} {d d':D} (e:DEq d d') (r:Rc F G tk v d):Rc F G tk v d':=by
 cases r with
 | pure r h=>exact .pure (e.rp0 r) (e.tag h)
 | ptr id off =>
  cases e with
  | refl=>exact .ptr id off
  | dead=>exact .pure (.dead _) trivial
 | eptr b o l h =>
  cases e with
  | refl=>exact .eptr b o l h
  | dead=>exact .pure (.dead _) trivial
  | eptr _ l' hl he=>exact .eptr b o l' (h.deq hl he)
 | fn f cap l h1 h2 =>
  cases e with
  | refl=>exact .fn f cap l h1 h2
  | dead=>exact .pure (.dead _) trivial
  | fn _ _ l' hl he=>exact .fn f cap l' (h1.trans hl) fun j hj=>(he j).re (h2 j (by omega))
 | mp vk vv va n ks vs h1 h2 h3 h4 =>
  cases e with
  | refl=>exact .mp vk vv va n ks vs h1 h2 h3 h4
  | dead=>exact .pure (.dead _) trivial
  | mp _ _ _ ks' _ vs' k1 k2 k3=>exact .mp vk vv va n ks' vs' h1 h2 (fun i hi=>by rw [← k1 i hi]; exact h3 i hi) fun i hi=>(h4 i hi).deq ⟨k2 i hi,k3 i hi⟩
theorem DEq.rd {F:Nat→FuncId} {G:Gh} {tk:Nat→Option (Nat×Nat)} {v:Value} {d d':D} (e:DEq d d') (r:Rd F G tk v d):Rd F G tk v d':=by
 cases r with
 | any r =>
  cases r with
  | cell r=>exact .any (.cell (e.rc r))
  | agg cs l h1 h2 =>
   cases e with
   | refl=>exact .any (.agg cs l h1 h2)
   | dead=>exact Rd.dead _
   | agg _ l' hl he=>exact .any (.agg cs l' (h1.trans hl) fun j hj=>(he j).rc (h2 j (by omega)))
 | tup vs l h1 h2 =>
  cases e with
  | refl=>exact .tup vs l h1 h2
  | dead=>exact Rd.dead _
 | mref id =>
  cases e with
  | refl=>exact .mref id
  | dead=>exact Rd.dead _
 | msl id z n a c h1 h2 h3 =>
  cases e with
  | refl=>exact .msl id z n a c h1 h2 h3
  | dead=>exact Rd.dead _
 | rptr id z n i off b c h1 h2 =>
  cases e with
  | refl=>exact .rptr id z n i off b c h1 h2
  | dead=>exact Rd.dead _
theorem DEq.names1 {d d':D} (e:DEq d d') {lo hi:Nat} (h:d.names1 lo hi=false):d'.names1 lo hi=false:=by
 cases e with
 | refl=>exact h
 | dead=>rfl
 | slice t t' z n g k ht hl he =>
  rcases ht with rfl | rfl
  ·cases t' <;> exact h
  ·rfl
 | agg=>rfl
 | eptr=>rfl
 | fn=>rfl
 | mp=>rfl
 | newp=>rfl
 | arr=>rfl
theorem DEqs.names {l l':List D} (e:DEqs l l') {lo hi:Nat} (h:Abs.names lo hi l=false):Abs.names lo hi l'=false :=
 dY fun j hj=>(e.2 j).names1 (dB h (by rw [e.1]; exact hj))
theorem DEq.names {d d':D} (e:DEq d d') {lo hi:Nat} (h:d.names lo hi=false):d'.names lo hi=false:=by
 cases e with
 | refl=>exact h
 | dead=>rfl
 | slice t t' z n g k ht hl he=>exact DEq.names1 (.slice t t' z n g k ht hl he) h
 | agg l l' hl he=>exact DEqs.names ⟨hl,he⟩ h
 | eptr=>rfl
 | fn=>rfl
 | mp=>rfl
 | newp=>rfl
 | arr=>rfl
theorem aBU {t' t:Tag} (h:aHY t' t=true):t=t'∨t=.ro:=by
 cases t with
 | ro=>exact .inr rfl
 | full=>cases t' <;> first | exact .inl rfl | cases h
 | own j =>
  cases t' with
  | own i=>exact .inl (by rw [Nat.eq_of_beq_eq_true h])
  | ro=>cases h
  | full=>cases h
theorem bZ {b:Bool} {p:Prop} (h:Br b p False):b=true∧p:=by
 cases b with
 | true=>exact ⟨rfl,h⟩
 | false=>exact h.elim
theorem aC2 {a b:Bool} (h:x3 a b=true):a=b:=by cases a <;> cases b <;> first | rfl | cases h
theorem sQ {d d':D} {k:Prop} (h:eA d d' k):DEq d d'∧k:=by
 cases d' with
 | dead=>exact ⟨.dead _,h⟩
 | int kd m =>
  cases d with
  | int kd' n =>
   obtain ⟨h1,rfl,h2⟩:=bZ h
   have:=qD h1
   subst this
   exact ⟨.refl _,h2⟩
  | _=>exact h.elim
 | bool b =>
  cases d with
  | bool b'=>obtain ⟨rfl,h⟩:=h; exact ⟨.refl _,h⟩
  | _=>exact h.elim
 | str b =>
  cases d with
  | str b'=>obtain ⟨rfl,h⟩:=h; exact ⟨.refl _,h⟩
  | _=>exact h.elim
 | slice t z m k' =>
  cases d with
  | slice t' z' n g =>
   obtain ⟨h1,rfl,h2,h3⟩:=bZ h
   rw [Bool.and_eq_true] at h1
   have h4:=Nat.eq_of_beq_eq_true h1.2
   subst h4
   exact ⟨.slice t' t z' n g k' (aBU h1.1) (fun i hi=>(h2 i hi).1) fun i hi=>(h2 i hi).2,h3⟩
  | _=>exact h.elim
 | ptr i o =>
  cases d with
  | ptr i' o' =>
   obtain ⟨h1,h2⟩:=bZ h
   rw [Bool.and_eq_true] at h1
   have h3:=Nat.eq_of_beq_eq_true h1.1
   have h4:=Nat.eq_of_beq_eq_true h1.2
   subst h3 h4
   exact ⟨.refl _,h2⟩
  | _=>exact h.elim
 | eptr l =>
  cases d with
  | eptr l'=>obtain ⟨h1,h⟩:=h; exact ⟨.eptr l' l h1.1 h1.2,h⟩
  | _=>exact h.elim
 | nilp =>
  cases d with
  | nilp=>exact ⟨.refl _,h⟩
  | _=>exact h.elim
 | fn f l =>
  cases d with
  | fn f' l' =>
   obtain ⟨h1,h2,h3⟩:=bZ h
   have h4:=Nat.eq_of_beq_eq_true h1
   subst h4
   exact ⟨.fn f' l' l h2.1 h2.2,h3⟩
  | _=>exact h.elim
 | agg l=>exact h.elim
 | tup l=>exact h.elim
 | ubool=>exact h.elim
 | mref i =>
  cases d with
  | mref i' =>
   obtain ⟨h1,h2⟩:=bZ h
   have h3:=Nat.eq_of_beq_eq_true h1
   subst h3
   exact ⟨.refl _,h2⟩
  | _=>exact h.elim
 | mp va m ks vs =>
  cases d with
  | mp va' n ks' vs' =>
   obtain ⟨h1,rfl,h2,h3,h4⟩:=bZ h
   have h5:=aC2 h1
   subst h5
   exact ⟨.mp _ _ _ _ _ _ h2 (fun i hi=>(h3 i hi).1) (fun i hi=>(h3 i hi).2),h4⟩
  | _=>exact h.elim
 | newp l =>
  cases d with
  | newp l'=>obtain ⟨h1,h⟩:=h; exact ⟨.newp l' l h1.1 h1.2,h⟩
  | _=>exact h.elim
 | arr w z m k' =>
  cases d with
  | arr w' z' n g =>
   obtain ⟨h1,rfl,h2,h3⟩:=bZ h
   rw [Bool.and_eq_true] at h1
   have h4:=Nat.eq_of_beq_eq_true h1.2
   have h5:=aC2 h1.1
   subst h4 h5
   exact ⟨.arr _ _ _ g k' (fun i hi=>(h2 i hi).1) fun i hi=>(h2 i hi).2,h3⟩
  | _=>exact h.elim
 | msl i z m =>
  cases d with
  | msl i' z' n =>
   obtain ⟨h1,rfl,h2⟩:=bZ h
   rw [Bool.and_eq_true] at h1
   have h3:=Nat.eq_of_beq_eq_true h1.1
   have h4:=Nat.eq_of_beq_eq_true h1.2
   subst h3 h4
   exact ⟨.refl _,h2⟩
  | _=>exact h.elim
 | rptr i z m e o =>
  cases d with
  | rptr i' z' n e' o' =>
   obtain ⟨h1,rfl,rfl,h2⟩:=bZ h
   rw [Bool.and_eq_true,Bool.and_eq_true] at h1
   have h3:=Nat.eq_of_beq_eq_true h1.1.1
   have h4:=Nat.eq_of_beq_eq_true h1.1.2
   have h5:=Nat.eq_of_beq_eq_true h1.2
   subst h3 h4 h5
   exact ⟨.refl _,h2⟩
  | _=>exact h.elim
theorem iV:∀ {l l':List D} {k:Prop},mM l l' k→DEqs l l'∧k
 | [],[],_,h=>⟨DEqs.refl _,h⟩
 | _::_,_::_,_,h =>
  let ⟨h1,h2⟩:=sQ h
  let ⟨h3,h4⟩:=iV h2
  ⟨h3.cons h1,h4⟩
 | [],_::_,_,h=>h.elim
 | _::_,[],_,h=>h.elim
theorem aEF {d d':D} {k:Prop} (h:aFM d d' k):DEq d d'∧k:=by
 cases d' with
 | agg l' =>
  cases d with
  | agg l=>obtain ⟨h1,h2⟩:=iV h; exact ⟨.agg l l' h1.1 h1.2,h2⟩
  | _=>exact h.elim
 | _=>exact sQ h
theorem dE:∀ {l l':List D} {k:Prop},nV l l' k→DEqs l l'∧k
 | [],[],_,h=>⟨DEqs.refl _,h⟩
 | _::_,_::_,_,h =>
  let ⟨h1,h2⟩:=aEF h
  let ⟨h3,h4⟩:=dE h2
  ⟨h3.cons h1,h4⟩
 | [],_::_,_,h=>h.elim
 | _::_,[],_,h=>h.elim
theorem eX:∀ {l l':List (List D)} {k:Prop},q9 l l' k→DEqB l l'∧k
 | [],[],_,h=>⟨.nil,h⟩
 | _::_,_::_,_,h =>
  let ⟨h1,h2⟩:=iV h
  let ⟨h3,h4⟩:=eX h2
  ⟨.cons h1 h3,h4⟩
 | [],_::_,_,h=>h.elim
 | _::_,[],_,h=>h.elim
theorem aD7 {a b:Bool} (h:aEY a b=true):a=b:=by cases a <;> cases b <;> first | rfl | cases h
def sY (cs cs':List D):Prop:=(aG cs=true∧aG cs'=true)∨(qA cs=true∧qA cs'=true)∨(aEV cs=true∧aEV cs'=true)∨(bQ cs=true∧bQ cs'=true)
theorem kH {cs:List D} (h:qA cs=true):∃ s p,cs=[.dead,.str s,.int .i64 p]:=by
 unfold qA at h
 split at h
 ·exact ⟨_,_,rfl⟩
 ·cases h
theorem wJ {ks ks':Nat→ByteArray} (key:ByteArray):∀ {n},(∀ i,i < n→ks i=ks' i)→mpF ks key n=mpF ks' key n
 | 0,_=>rfl
 | n+1,h=>by
  simp only [mpF,wJ key (n:=n) fun i hi=>h i (by omega),h n (by omega)]
theorem l0 {cs:List D} (h:aEV cs=true):∃ x va n ks vs,cs=[x,.mp va n ks vs]:=by
 unfold aEV at h
 split at h
 ·exact ⟨_,_,_,_,_,rfl⟩
 ·cases h
theorem HoldsO.deq {G:Gh} {tk:Nat→Option (Nat×Nat)} {o:Obj} {cs cs':List D} (h:HoldsO F G tk o cs') (d:DEqs cs' cs) (a:sY cs cs'):HoldsO F G tk o cs:=by
 rcases a with ⟨a1,a2⟩ | ⟨a1,a2⟩ | ⟨a1,a2⟩ | ⟨a1,a2⟩
 ·obtain ⟨c,e,h1,h2,h3⟩:=h.cells a2
  exact .inl ⟨a1,c,e,h1,h2.trans d.1,fun j hj=>(d.2 j).rc (h3 j (by rw [d.1]; exact hj))⟩
 ·obtain ⟨s,p,rfl⟩:=kH a1
  obtain ⟨s',p',rfl⟩:=kH a2
  have e1:=d.2 1
  have e2:=d.2 2
  simp only [nth] at e1 e2
  cases e1
  cases e2
  exact h
 ·obtain ⟨x,va,n,ks,vs,rfl⟩:=l0 a1
  obtain ⟨x',va',n',ks',vs',rfl⟩:=l0 a2
  rcases h with ⟨h1,_⟩ | ⟨_,_,_,h1⟩ | ⟨es,clock,_,_,_,_,_,h1,h2,h3⟩
  ·cases x' <;> simp [aG] at h1
  ·simp at h1
  ·simp only [List.cons.injEq,D.mp.injEq,and_true] at h2
   obtain ⟨rfl,rfl,rfl,rfl,rfl⟩:=h2
   have e1:=d.2 1
   simp only [nth] at e1
   exact .inr (.inr ⟨es,clock,x,va,n,ks,vs,h1,rfl,e1.rc h3⟩)
 ·obtain ⟨w,z,n,g,rfl⟩:=cV a2
  rcases h.cell with h | ⟨_,_,h⟩ | ⟨_,_,_,_,_,h⟩
  ·simp [aG] at h
  ·simp at h
  ·simp at h
theorem tR {hp:Nat→Option (Bool×List D)}:∀ {l:List (Nat×Bool×List D)} {k:Prop},hpK hp l k→(∀ i f cs,(i,f,cs)∈l→∃ cs',hp i=some (f,cs')∧DEqs cs' cs∧(f=false→sY cs cs'))∧k
 | [],_,h=>⟨fun _ _ _ hm=>by simp at hm,h⟩
 | (i,f,cs)::l,k,h=>by
  simp only [hpK] at h
  split at h
  ·rename_i f' cs' hi
   obtain ⟨h1,h2⟩:=bZ h
   obtain ⟨h3,h4⟩:=iV h2
   obtain ⟨h5,h6⟩:=tR h4
   rw [Bool.and_eq_true] at h1
   have h7:=aD7 h1.2
   subst h7
   refine ⟨fun j g c hm=>?_,h6⟩
   simp only [List.mem_cons] at hm
   rcases hm with hm | hm
   ·cases hm
    exact ⟨cs',hi,h3,fun hf=>by have:=h1.1; rw [hf] at this; simpa [sY,or_assoc] using this⟩
   ·exact h5 j g c hm
  ·exact h.elim
theorem sS {tk:Nat→Option (Nat×Nat)}:∀ {l:List (Nat×Nat×Nat)} {k:Prop},tkK tk l k→(∀ i z n,(i,z,n)∈l→tk i=some (z,n))∧k
 | [],_,h=>⟨fun _ _ _ hm=>by simp at hm,h⟩
 | (i,z,n)::l,k,h=>by
  simp only [tkK] at h
  split at h
  ·rename_i z' n' hi
   obtain ⟨h1,rfl,h2⟩:=bZ h
   have h3:=Nat.eq_of_beq_eq_true h1
   subst h3
   obtain ⟨h4,h5⟩:=sS h2
   refine ⟨fun j y m hm=>?_,h5⟩
   simp only [List.mem_cons] at hm
   rcases hm with hm | hm
   ·cases hm; exact hi
   ·exact h4 j y m hm
  ·exact h.elim
theorem RowO.deq {σ:Sg} {o:Obj} {z n c:Nat} {g h:Nat→List D} (r:RowO σ o z n c g) (h1:∀ i,i < n→(g i).length=(h i).length) (h2:∀ i,i < n→∀ j,DEq (nth (g i) j .dead) (nth (h i) j .dead)):RowO σ o z n c h:=by
 obtain ⟨cur,e,e1,e2,e3⟩:=r
 exact ⟨cur,e,e1,e2,fun i hi=>⟨(h1 i hi).symm.trans (e3 i hi).1,fun j hj=>⟨((e3 i hi).2 j hj).1,(h2 i hi j).rp ((e3 i hi).2 j hj).2⟩⟩⟩
theorem DEq.arr_inv {d:D} {w:Bool} {z n:Nat} {h:Nat→List D} (e:DEq d (.arr w z n h)):∃ g,d=.arr w z n g∧(∀ i,i < n→(g i).length=(h i).length)∧∀ i,i < n→∀ j,DEq (nth (g i) j .dead) (nth (h i) j .dead):=by
 cases e with
 | refl=>exact ⟨h,rfl,fun _ _=>rfl,fun _ _ _=>.refl _⟩
 | arr _ _ _ g _ h1 h2=>exact ⟨g,rfl,h1,h2⟩
theorem DEqs.arr_inv {l:List D} {w:Bool} {z n:Nat} {h:Nat→List D} (e:DEqs l [.dead,.arr w z n h]):∃ x g,l=[x,.arr w z n g]∧(∀ i,i < n→(g i).length=(h i).length)∧∀ i,i < n→∀ j,DEq (nth (g i) j .dead) (nth (h i) j .dead):=by
 match l,e with
 | [],e=>exact absurd e.1 (by simp)
 | [_],e=>exact absurd e.1 (by simp)
 | _::_::_::_,e=>exact absurd e.1 (by simp)
 | [x,y],e =>
  obtain ⟨g,h1,h2,h3⟩:=(show DEq y (.arr w z n h) from e.2 1).arr_inv
  exact ⟨x,g,by rw [h1],h2,h3⟩
theorem DEqs.of_arr {l:List D} {w:Bool} {z n:Nat} {g:Nat→List D} (e:DEqs [.dead,.arr w z n g] l):∃ y,l=[.dead,y]∧DEq (.arr w z n g) y:=by
 match l,e with
 | [],e=>exact absurd e.1 (by simp)
 | [_],e=>exact absurd e.1 (by simp)
 | _::_::_::_,e=>exact absurd e.1 (by simp)
 | [x,y],e =>
  have h1:DEq .dead x:=e.2 0
  have:x=.dead:=by cases h1 <;> rfl
  subst this
  exact ⟨y,rfl,e.2 1⟩
theorem Mem.retold (m:Mem F B np w0 ext σ0 G hp tk w) (h1:∀ i f cs,hp' i=some (f,cs)→∃ cs',hp i=some (f,cs')∧DEqs cs' cs∧(f=false→sY cs cs')) (h2:∀ i e,tk' i=some e→tk i=some e):Mem F B np w0 ext σ0 G hp' tk' w:=by
 have k:Keeps 0 0 G G tk tk':=⟨SgLe.refl _,fun _ _=>rfl,fun i z m' _ h=>⟨z,m',h2 i _ h,Nat.le_refl _,fun _=>rfl⟩,fun _ _ _ _ e=>e⟩
 have ho:∀ b j,bO G hp' tk' b j→bO G hp tk b j:=by
  intro b j h
  cases j with
  | inl id =>
   obtain ⟨cs,e1,e2⟩:=h
   obtain ⟨cs',e3,d,a⟩:=h1 _ _ _ e1
   refine ⟨cs',e3,?_⟩
   have e2:Blk G id cs b:=e2
   rcases e2 with ⟨e4,e5⟩ | ⟨w1,z,n,g,c,rfl,e4,e5⟩
   ·refine .inl ⟨?_,e5⟩
    rcases a rfl with ⟨_,a2⟩ | ⟨a1,a2⟩ | ⟨a1,a2⟩ | ⟨a1,a2⟩
    ·exact bP a2
    ·obtain ⟨_,_,rfl⟩:=kH a2
     rfl
    ·obtain ⟨x,_,_,_,_,rfl⟩:=l0 a2
     cases x <;> rfl
    ·rw [a1] at e4
     cases e4
   ·obtain ⟨x,g',rfl,_⟩:=d.arr_inv
    rcases a rfl with ⟨a1,_⟩ | ⟨a1,_⟩ | ⟨a1,_⟩ | ⟨_,a2⟩
    ·cases a1
    ·cases a1
    ·cases a1
    ·obtain ⟨_,_,_,_,e6⟩:=cV a2
     cases e6
     exact .inr ⟨w1,z,n,g',c,rfl,e4,e5⟩
  | inr i=>obtain ⟨z,n,c,e1,e2,e3⟩:=h; exact ⟨z,n,c,h2 _ _ e1,e2,e3⟩
 refine ⟨m.stab,m.old,m.os,m.tape,m.output,m.base,m.keep,fun id cs h hna=>?_,fun id fw z n g h=>?_,fun id cs h j hj=>?_,fun i z n h=>m.toks i z n (h2 _ _ h),fun b j j' h h'=>m.own1 b j j' (ho b j h) (ho b j' h'),fun b j h=>m.own2 b j (ho b j h),fun b r h=>⟨(m.resv b r h).1,fun j hj=>(m.resv b r h).2.1 j (ho b j hj),(m.resv b r h).2.2⟩,fun id x va n ks vs h hx=>?_⟩
 ·obtain ⟨cs',e0,d,hs⟩:=h1 _ _ _ h
  have hna':bQ cs'=false:=by
   cases hh:bQ cs' with
   | false=>rfl
   | true =>
    rcases hs rfl with ⟨_,a2⟩ | ⟨_,a2⟩ | ⟨_,a2⟩ | ⟨a1,_⟩
    ·rw [bP a2] at hh
     cases hh
    ·obtain ⟨_,_,rfl⟩:=kH a2
     cases hh
    ·obtain ⟨x,_,_,_,_,rfl⟩:=l0 a2
     cases x <;> cases hh
    ·rw [a1] at hna
     cases hna
  obtain ⟨o,e1,e2,e3⟩:=m.vars id cs' e0 hna'
  exact ⟨o,e1,(e2.imp fun j v _ hr=>hr.keep k (bG _)).deq d (hs rfl),e3⟩
 ·obtain ⟨cs',e0,d,hs⟩:=h1 _ _ _ h
  obtain ⟨x,g',rfl,d1,d2⟩:=d.arr_inv
  have hx:x=.dead:=by
   rcases hs rfl with ⟨a1,_⟩ | ⟨a1,_⟩ | ⟨a1,_⟩ | ⟨_,a2⟩
   ·cases a1
   ·cases a1
   ·cases a1
   ·obtain ⟨_,_,_,_,e6⟩:=cV a2
    cases e6
    rfl
  subst hx
  obtain ⟨a1,c,e1,e2⟩:=m.rows id fw z n g' e0
  refine ⟨a1,c,e1,fun b hb hc=>?_⟩
  obtain ⟨e3,o,e4,e5⟩:=e2 b hb hc
  exact ⟨e3,o,e4,e5.deq d1 d2⟩
 ·obtain ⟨cs',e0,d,_⟩:=h1 _ _ _ h
  obtain ⟨v,e1,e2,e3⟩:=m.froz id cs' e0 j (by rw [d.1]; exact hj)
  exact ⟨v,e1,(d.2 j).rp0 e2,(d.2 j).pure e2 e3⟩
 ·obtain ⟨cs',e0,d,hs⟩:=h1 _ _ _ h
  have hmp:∃ x' va' n' ks' vs',cs'=[x',.mp va' n' ks' vs']:=by
   rcases hs rfl with ⟨a1,_⟩ | ⟨a1,_⟩ | ⟨_,a2⟩ | ⟨a1,_⟩
   ·cases x <;> cases a1
   ·cases x <;> cases a1
   ·exact l0 a2
   ·cases x <;> cases a1
  obtain ⟨x',va',n',ks',vs',rfl⟩:=hmp
  have d0:DEq x' x:=d.2 0
  have d1:DEq (.mp va' n' ks' vs') (.mp va n ks vs):=d.2 1
  have hx':x'≠.dead:=fun e=>by
   subst e
   cases d0 <;> exact hx rfl
  obtain ⟨⟨h3,h4⟩,es,ck,h5,h6⟩:=m.lins id x' va' n' ks' vs' e0 hx'
  have hxx:x'=x:=by
   rcases h4 with rfl | ⟨k,rfl⟩
   ·cases d0 with
    | refl=>rfl
    | dead=>exact absurd rfl hx
   ·cases d0 with
    | refl=>rfl
    | dead=>exact absurd rfl hx
  subst hxx
  have key:va'=va∧n'=n∧(∀ i,i < n→ks' i=ks i)∧(∀ i,i < n→(vs' i).length=(vs i).length)∧∀ i,i < n→∀ j,DEq (nth (vs' i) j .dead) (nth (vs i) j .dead):=by
   cases d1 with
   | refl=>exact ⟨rfl,rfl,fun _ _=>rfl,fun _ _=>rfl,fun _ _ _=>.refl _⟩
   | mp _ _ _ _ _ _ e1 e2 e3=>exact ⟨rfl,rfl,e1,e2,e3⟩
  obtain ⟨rfl,rfl,k1,k2,k3⟩:=key
  refine ⟨⟨h3,h4⟩,es,ck,h5,fun i hi hk q hq t z len g hg a c hv hlt=>?_⟩
  have k4:=k3 i hi q
  rw [hg] at k4
  obtain ⟨t',g',k5⟩:∃ t' g',nth (vs' i) q .dead=.slice t' z len g':=by
   generalize nth (vs' i) q D.dead=dd at k4
   cases k4 with
   | refl=>exact ⟨_,_,rfl⟩
   | slice=>exact ⟨_,_,rfl⟩
  exact h6 i hi (fun k e=>by rw [wJ k k1]; exact hk k e) q (by rw [k2 i hi]; exact hq) t' z len g' k5 a c hv hlt
theorem oE (r:Rel F B np w0 ext σ0 G s a w) {α:Type} {S:α→Tm} {lo hi:Nat} {k:α→Prop} (hk:kB S lo hi s k) :
  ∃ x,k x∧Rel F B np w0 ext σ0 G (uL (S x)) a w∧(∀ l h,Clean l h s→Clean l h (uL (S x)))∧Clean lo hi (uL (S x)):=by
 obtain ⟨x,hk⟩:=hk
 cases hb:(hU lo hi (S x).fr || iD lo hi (S x).hp || iH lo hi (S x).tk) with
 | true=>rw [hb] at hk; exact hk.elim
 | false =>
  rw [hb] at hk
  simp only [Bool.or_eq_false_iff] at hb
  obtain ⟨⟨hb1,hb2⟩,hb3⟩:=hb
  obtain ⟨d,hk⟩:=dE hk
  obtain ⟨hh,hk⟩:=tR hk
  obtain ⟨ht,hk⟩:=sS hk
  have hh':∀ i f cs,ag (S x).hp i=some (f,cs)→∃ cs',s.hp i=some (f,cs')∧DEqs cs' cs∧(f=false→sY cs cs'):=fun i f cs h=>hh i f cs (mO h)
  have ht':∀ i e,ag (S x).tk i=some e→s.tk i=some e:=fun i e h=>ht i e.1 e.2 (mO h)
  have kk:Keeps 0 0 G G s.tk (ag (S x).tk):=⟨SgLe.refl _,fun _ _=>rfl,fun i z m' _ h=>⟨z,m',ht' _ _ h,Nat.le_refl _,fun _=>rfl⟩,fun _ _ _ _ e=>e⟩
  refine ⟨x,hk,⟨r.defers,r.size.trans d.1,fun i hi'=>?_,r.mem.retold hh' ht',r.par⟩,fun l h hc=>⟨fun i hi'=>?_,fun i f cs hx=>?_,fun i e hx=>?_⟩,⟨fun i hi'=>uH hb1 hi',fun i f cs hx=>sV hb2 _ (mO hx),fun i e hx=>s9 hb3 _ (mO hx)⟩⟩
  ·exact (d.2 i).rd ((r.slots i (by rw [d.1]; exact hi')).keep kk (n9 _))
  ·exact (d.2 i).names (hc.fr i (by rw [d.1]; exact hi'))
  ·obtain ⟨cs',e1,e2,_⟩:=hh' i f cs hx
   have:=hc.hp i f cs' e1
   exact ⟨this.1,e2.names this.2⟩
  ·exact hc.tk i e (ht' i e hx)
theorem Clean.join {mid h:Nat} (h1:Clean lo mid s) (h2:Clean mid h s):Clean lo h s :=
 ⟨fun i hi=>pP (h1.fr i hi) (h2.fr i hi),fun i f cs hx=>⟨fun hh=>by
  have e1:=(h1.hp i f cs hx).1
  have e2:=(h2.hp i f cs hx).1
  omega,j7 (h1.hp i f cs hx).2 (h2.hp i f cs hx).2⟩,fun i e hx hh=>by
  have e1:=h1.tk i e hx
  have e2:=h2.tk i e hx
  omega⟩
theorem rC (r:Rel F B np w0 ext σ0 G s a w) {α:Type} {S:α→Tm} {lo hi:Nat} (hcl:∀ h,Clean hi h s) {k:α→Prop} (hk:kB S lo hi s k) :
  ∃ x,k x∧Rel F B np w0 ext σ0 G (uL (S x)) a w∧∀ h,Clean lo h (uL (S x)):=by
 obtain ⟨x,h1,h2,h3,h4⟩:=oE r hk
 exact ⟨x,h1,h2,fun h=>h4.join (h3 _ _ (hcl h))⟩
theorem i7 (lo hi:Nat) (l:List D):(yD lo hi l).length=l.length:=by
 induction l with
 | nil=>rfl
 | cons d l ih=>simp only [yD,List.length_cons,ih]
theorem aAQ (lo hi:Nat) (l:List D) (j:Nat):nth (yD lo hi l) j .dead=ro1K lo hi (nth l j .dead):=by
 induction l generalizing j with
 | nil=>rfl
 | cons d l ih=>cases j with
  | zero=>rfl
  | succ j=>exact ih j
theorem Rd.ro1K {G:Gh} {tk:Nat→Option (Nat×Nat)} {v:Value} {d:D} (h:Rd F G tk v d) (lo hi:Nat):Rd F G tk v (ro1K lo hi d):=by
 cases d with
 | slice t z n g =>
  cases t with
  | own i =>
   simp only [Abs.ro1K]
   cases (Nat.ble lo i&&Nat.blt i hi) with
   | true=>exact .any (.cell (.pure (h.slice_inv.1.tag .ro) trivial))
   | false=>exact h
  | _=>exact h
 | _=>exact h
theorem aB8 {d:D} {a b lo hi:Nat} (h:d.names a b=false):(ro1K lo hi d).names a b=false:=by
 cases d with
 | slice t z n g =>
  cases t with
  | own i =>
   simp only [Abs.ro1K]
   cases (Nat.ble lo i&&Nat.blt i hi) with
   | true=>rfl
   | false=>exact h
  | _=>exact h
 | _=>exact h
theorem yV (r:Rel F B np w0 ext σ0 G s a w) {kill kh kt:List Nat} {lo hi:Nat} (hcl:∀ h,Clean hi h s) {k:St→Prop} (hk:fP kill kh kt lo hi s k) :
  ∃ s',k s'∧Rel F B np w0 ext σ0 G s' a w∧∀ h,Clean lo h s':=by
 unfold fP at hk
 cases hb:(hU lo hi (yD lo hi (kills kill s.fr)) || iD lo hi (lG s.hp kh) || iH lo hi (jX s.tk kt)) with
 | true=>rw [hb] at hk; exact hk.elim
 | false =>
  rw [hb] at hk
  simp only [Bool.or_eq_false_iff] at hb
  obtain ⟨⟨hb1,hb2⟩,hb3⟩:=hb
  have kk:Keeps 0 0 G G s.tk (ag (jX s.tk kt)):=⟨SgLe.refl _,fun _ _=>rfl,fun i z m' _ h=>⟨z,m',l5 h,Nat.le_refl _,fun _=>rfl⟩,fun _ _ _ _ e=>e⟩
  refine ⟨_,hk,⟨r.defers,by simp only [i7,g9]; exact r.size,fun i hi'=>?_,r.mem.restrict (fun i e h=>pJ h) (fun i e h=>l5 h),r.par⟩,fun h=>⟨fun i hi'=>?_,fun i f cs hx=>?_,fun i e hx=>?_⟩⟩
  ·simp only [i7,g9] at hi'
   simp only
   rw [aAQ]
   rcases vI kill s.fr i with e | e
   ·rw [e]
    exact Rd.ro1K ((r.slots i hi').keep kk (n9 _)) _ _
   ·rw [e]
    exact Rd.dead _
  ·simp only [i7,g9] at hi'
   simp only
   have e1:=uH hb1 (j:=i) (by rw [i7,g9]; exact hi')
   refine pP e1 ?_
   rw [aAQ]
   rcases vI kill s.fr i with e | e
   ·rw [e]; exact aB8 ((hcl h).fr i hi')
   ·rw [e]; rfl
  ·have e1:=sV hb2 _ (mO hx)
   have e2:=(hcl h).hp i f cs (pJ hx)
   refine ⟨fun hh=>?_,j7 e1.2 e2.2⟩
   have e3:=e1.1
   have e4:=e2.1
   simp only at e3
   omega
  ·have e1:=s9 hb3 _ (mO hx)
   have e2:=(hcl h).tk i e (l5 hx)
   simp only at e1
   omega
def aGD:AE→Exit
 | .normal=>.normal
 | .exit i=>.exit i
 | .ret=>.ret
theorem aA9 (p:Nat→Prop) (h:∃ n,p n):∃ n,p n∧∀ m,p m→n≤m:=by
 obtain ⟨n,hn⟩:=h
 induction n using Nat.strongRecOn with
 | _ n ih =>
  by_cases hm:∃ m,m < n∧p m
  ·obtain ⟨m,h1,h2⟩:=hm
   exact ih m h1 h2
  ·exact ⟨n,hn,fun m h=>Nat.le_of_not_lt fun h1=>hm ⟨m,h1,h⟩⟩
theorem wO {c:Code} {Q:Exit→Act→World→Prop} (I:Nat→Act→World→Prop) {n:Nat} (h0:I n a w) (round:∀ n a w,I n a w→c.wp P (Exit.then (fun a' w'=>∃ m,m < n∧I m a' w') Q) a w):(Code.loop c).wp P Q a w:=by
 classical
 let μ:Act→World→Nat:=fun a w=>if h:∃ n,I n a w then Classical.choose (aA9 _ h) else 0
 refine wp_loop (fun a w=>∃ n,I n a w) μ ⟨n,h0⟩ fun a w hI=>?_
 have hμ:μ a w=Classical.choose (aA9 _ hI):=dif_pos hI
 refine wp_mono (round _ a w (Classical.choose_spec (aA9 _ hI)).1) fun e a' w' hq=>?_
 cases e with
 | normal =>
  obtain ⟨m,hm,hI'⟩:=hq
  have hE:∃ n,I n a' w':=⟨m,hI'⟩
  have h1:μ a' w'=Classical.choose (aA9 _ hE):=dif_pos hE
  refine ⟨hE,?_⟩
  rw [h1,hμ]
  exact Nat.lt_of_le_of_lt ((Classical.choose_spec (aA9 _ hE)).2 m hI') hm
 | exit id=>exact hq
 | goto l=>exact hq
 | ret=>exact hq
 | panic ch=>exact hq
 | outgrown=>exact hq
theorem Clean.up {lo lo':Nat} (h:∀ hi,Clean lo hi s) (h1:lo≤lo'):∀ hi,Clean lo' hi s:=fun hi=>(h hi).sub h1 (Nat.le_refl _)
def aCJ (P:Program) (F:Nat→FuncId) (E:Env) (np:Nat) (c:Code) (x:AC) (lo hi:Nat):Prop :=
 ∀ {B:Nat} {w0:World} {ext:List Nat} {σ0:Og} {G:Gh} {s:St} {a:Act} {w:World} {Q:AE→St→Prop} {Qm:Exit→Act→World→Prop},np≤lo→Rel F B np w0 ext σ0 G s a w→(∀ h,Clean lo h s)→aev E x Q s →
  (∀ e s' a' w' G',Q e s'→Rel F B np w0 ext σ0 G' s' a' w'→(∀ h,Clean hi h s')→Qm (aGD e) a' w')→c.wp P Qm a w
end
section
variable {F:Nat→FuncId} {B np:Nat} {w0 w:World} {ext:List Nat} {σ0:Og} {G:Gh} {s:St} {a:Act} {hp:Nat→Option (Bool×List D)} {tk:Nat→Option (Nat×Nat)}
theorem Mem.addArr (m:Mem F B np w0 ext σ0 G hp tk w) {id z c:Nat} {ad:Option Addr} (hnp:np≤id) (hfree:hp id=none)
  (hblk:0 < c→∃ b cur e,ad=some ⟨b,0,none⟩∧w.heap[b]? = some (.cells cur e (0,0))∧cur.size=c * z∧(∀ o,G.σ b o=none)∧(∀ k,¬bO G hp tk b k)∧B≤b∧G.γ b=none)
  (hcl:∀ id' f cs',hp id'=some (f,cs')→names id (id+1) cs'=false) :
  Mem F B np w0 ext σ0 { G with η:=fun i k=>if i=id then (if k=0 then some (.slice ad 0 c) else none) else G.η i k } (fun j=>bif Nat.beq j id then some (false,[.dead,.arr true z 0 eU]) else hp j) tk w:=by
 have hk:Keeps id (id+1) G { G with η:=fun i k=>if i=id then (if k=0 then some (.slice ad 0 c) else none) else G.η i k } tk tk :=
  ⟨SgLe.refl _,fun _ _=>rfl,fun _ z m _ e=>⟨z,m,e,Nat.le_refl _,fun _=>rfl⟩,fun i k v hi e=>by simp only; rw [if_neg (by omega)]; exact e⟩
 have hown:∀ b k,bO { G with η:=fun i k=>if i=id then (if k=0 then some (.slice ad 0 c) else none) else G.η i k } (fun j=>bif Nat.beq j id then some (false,[.dead,.arr true z 0 eU]) else hp j) tk b k →
   bO G hp tk b k∨(k=.inl id∧0 < c∧ad=some ⟨b,0,none⟩):=by
  intro b k hk'
  cases k with
  | inl j =>
   obtain ⟨x,h1,h2⟩:=hk'
   rcases aN h1 with ⟨rfl,hx⟩ | ⟨hj,h3⟩
   ·cases hx
    have h2:Blk _ j _ b:=h2
    rcases h2 with ⟨h4,_⟩ | ⟨_,_,_,_,c2,h4,h5,h6⟩
    ·cases h4
    ·cases h4
     simp only [if_true] at h5
     cases h5
     exact .inr ⟨rfl,h6,rfl⟩
   ·exact .inl ⟨x,h3,h2.congr rfl fun k=>by simp only; rw [if_neg hj]⟩
  | inr i=>exact .inl hk'
 refine ⟨m.stab,m.old,m.os,m.tape,m.output,m.base,m.keep,?_,?_,?_,m.toks,?_,?_,?_,?_⟩
 ·intro j x hx hnx
  rcases aN hx with ⟨rfl,hx'⟩ | ⟨hj,h3⟩
  ·cases hx'
   cases hnx
  ·obtain ⟨o',h1,h4,h5⟩:=m.vars j x h3 hnx
   exact ⟨o',h1,h4.imp fun q v hq hr=>hr.keep hk (dB (hcl j _ x h3) hq),h5⟩
 ·intro j fw z2 n2 g2 hx
  rcases aN hx with ⟨rfl,hx'⟩ | ⟨hj,h3⟩
  ·cases hx'
   refine ⟨ad,c,⟨by simp,Nat.zero_le _,fun k hk=>?_,fun hlt=>by omega,fun hc=>?_⟩,fun b hb hc=>?_⟩
   ·simp only [if_true]
    rw [if_neg (by omega)]
   ·obtain ⟨b,_,_,h1,_⟩:=hblk hc
    exact ⟨b,h1⟩
   ·obtain ⟨b2,cur,e,h1,h2,h3,h4,_⟩:=hblk hc
    rw [hb] at h1
    cases h1
    exact ⟨h4,_,h2,cur,e,rfl,h3,fun i hi=>by omega⟩
  ·obtain ⟨a1,c1,h1,h2⟩:=m.rows j fw z2 n2 g2 h3
   refine ⟨a1,c1,⟨?_,h1.le,fun k hk=>?_,h1.mine,h1.blk⟩,h2⟩
   ·simp only
    rw [if_neg hj]
    exact h1.at_
   ·simp only
    rw [if_neg hj]
    exact h1.none k hk
 ·intro j x hx i hi
  rcases aN hx with ⟨rfl,hx'⟩ | ⟨hj,h3⟩
  ·cases hx'
  ·exact m.froz j x h3 i hi
 ·intro b k k' hk1 hk2
  rcases hown b k hk1 with h1 | ⟨rfl,h1,h2⟩
  ·rcases hown b k' hk2 with h3 | ⟨rfl,h3,h4⟩
   ·exact m.own1 b k k' h1 h3
   ·obtain ⟨b2,_,_,h5,_,_,_,h6,_⟩:=hblk h3
    rw [h4] at h5
    cases h5
    exact (h6 _ h1).elim
  ·rcases hown b k' hk2 with h3 | ⟨rfl,_,_⟩
   ·obtain ⟨b2,_,_,h5,_,_,_,h6,_⟩:=hblk h1
    rw [h2] at h5
    cases h5
    exact (h6 _ h3).elim
   ·rfl
 ·intro b k hk1
  rcases hown b k hk1 with h1 | ⟨rfl,h1,h2⟩
  ·exact m.own2 b k h1
  ·obtain ⟨b2,_,_,h5,_,_,_,_,h6,_⟩:=hblk h1
   rw [h2] at h5
   cases h5
   exact .inl h6
 ·intro b r hr
  obtain ⟨h1,h2,h3⟩:=m.resv b r hr
  refine ⟨h1,fun k hk1=>?_,h3⟩
  rcases hown b k hk1 with h4 | ⟨_,h4,h5⟩
  ·exact h2 k h4
  ·obtain ⟨b2,_,_,h6,_,_,_,_,_,h7⟩:=hblk h4
   rw [h5] at h6
   cases h6
   have hr:G.γ b=some r:=hr
   rw [h7] at hr
   cases hr
 ·intro j x va n ks vs hx hxd
  rcases aN hx with ⟨_,hx'⟩ | ⟨_,h3⟩
  ·cases hx'
  ·exact m.lins j x va n ks vs h3 hxd
theorem Mem.freezeArr (m:Mem F B np w0 ext σ0 G hp tk w) {id z n:Nat} {g:Nat→List D} (h:hp id=some (false,[.dead,.arr true z n g])) :
  ∃ σ' ad c,SgLe G.σ σ'∧G.η id n=some (.slice ad n c)∧Rp σ' (.slice ad n c) (.slice .ro z n g)∧Mem F B np w0 ext σ0 { G with σ:=σ' } (fun j=>bif Nat.beq j id then some (true,[]) else hp j) tk w:=by
 obtain ⟨ad,c,hd,hr⟩:=m.rows id true z n g h
 have hnp:np≤id:=by
  rcases Nat.lt_or_ge id np with h1 | h1
  ·have:=(hd.mine h1).1
   cases this
  ·exact h1
 have howner:∀ b,ad=some ⟨b,0,none⟩→0 < c→bO G hp tk b (.inl id):=fun b hb hc=>⟨_,h,.inr ⟨true,z,n,g,c,rfl,by rw [hd.at_,hb],hc⟩⟩
 -- what is stable now
 obtain ⟨st,bn,hst⟩:∃ (st:Nat→Option Value) (bn:Nat),(0 < c→ad=some ⟨bn,0,none⟩∧∃ cur e,w.heap[bn]? = some (.cells cur e (0,0))∧cur.size=c * z∧(∀ q,G.σ bn q=none)∧(∀ i,i < n→(g i).length=z∧∀ j,j < z→(cur.getD (i * z+j) undef).oneCell'=true∧Rp G.σ (cur.getD (i * z+j) undef) (nth (g i) j .dead).pure1) ∧
   st=fun o=>if o < n * z then cur[o]? else none)∧(c=0→bn=w.heap.size∧st=fun _=>none):=by
  by_cases hc:0 < c
  ·obtain ⟨b,hb⟩:=hd.blk hc
   obtain ⟨h1,o,h2,cur,e,rfl,h3,h4⟩:=hr b hb hc
   exact ⟨_,b,fun _=>⟨hb,cur,e,h2,h3,h1,h4,rfl⟩,fun h=>by omega⟩
  ·exact ⟨fun _=>none,w.heap.size,fun h=>absurd h hc,fun _=>⟨rfl,rfl⟩⟩
 have hno:∀ q,G.σ bn q=none:=by
  intro q
  by_cases hc:0 < c
  ·obtain ⟨_,_,_,_,_,h1,_⟩:=hst.1 hc
   exact h1 q
  ·obtain ⟨rfl,_⟩:=hst.2 (by omega)
   cases hq:G.σ w.heap.size q with
   | none=>rfl
   | some v=>have:=m.lt hq; omega
 have hle:SgLe G.σ (aH G.σ bn st):=by
  intro b o v hv
  unfold aH
  rw [if_neg (fun hbb=>by rw [hbb,hno o] at hv; cases hv)]
  exact hv
 have hown:∀ b k,bO { G with σ:=aH G.σ bn st } (fun j=>bif Nat.beq j id then some (true,[]) else hp j) tk b k→bO G hp tk b k∧k≠.inl id:=by
  intro b k hk
  cases k with
  | inl j =>
   obtain ⟨x,h1,h2⟩:=hk
   rcases aN h1 with ⟨_,hx⟩ | ⟨hj,h3⟩
   ·cases hx
   ·exact ⟨⟨x,h3,h2⟩,fun hh=>hj (Sum.inl.inj hh)⟩
  | inr i=>exact ⟨hk,by simp⟩
 have hne:∀ b k,bO G hp tk b k→k≠.inl id→b≠bn:=by
  intro b k hk hkk hbb
  subst hbb
  by_cases hc:0 < c
  ·exact hkk (m.own1 _ _ _ hk (howner b (hst.1 hc).1 hc))
  ·have:=m.own_lt hk
   have:=(hst.2 (by omega)).1
   omega
 refine ⟨aH G.σ bn st,ad,c,hle,hd.at_,?_,?_⟩
 ·by_cases hc:0 < c
  ·obtain ⟨rfl,cur,e,h1,h2,h3,h4,rfl⟩:=hst.1 hc
   have hnz:n * z≤c * z:=Nat.mul_le_mul_right _ hd.le
   refine .slice _ n c .ro z g bn 0 (fun i j=>cur.getD (i * z+j) undef) hd.le (fun _=>rfl) (fun i hi=>(h4 i hi).1) (fun i j hi hj=>?_) (fun i j hi hj=>((h4 i hi).2 j hj).2.mono hle)
   have:(i+1) * z≤n * z:=Nat.mul_le_mul_right _ hi
   rw [Nat.add_mul] at this
   simp only [aH,if_true,Nat.zero_add]
   rw [if_pos (by omega)]
   have:i * z+j < cur.size:=by omega
   simp [this]
  ·have h1:=hd.le
   have h2:n=0:=by omega
   have h3:c=0:=by omega
   subst h2
   subst h3
   exact .slice ad 0 0 .ro z g 0 0 (fun _ _=>undef) (Nat.le_refl _) (fun h=>absurd rfl h) (fun i hi=>by omega) (fun i j hi=>by omega) (fun i j hi=>by omega)
 ·refine ⟨?_,?_,m.os,m.tape,m.output,m.base,m.keep,?_,?_,?_,?_,?_,?_,?_,?_⟩
  ·intro b o v hv
   by_cases hbb:b=bn
   ·subst hbb
    simp only [aH,if_true] at hv
    by_cases hc:0 < c
    ·obtain ⟨_,cur,e,h1,h2,h3,h4,rfl⟩:=hst.1 hc
     simp only at hv
     split at hv
     ·rename_i ho
      have hz:0 < z:=by
       rcases Nat.eq_zero_or_pos z with h0 | h0
       ·subst h0; simp at ho
       ·exact h0
      have hi:o / z < n:=by rw [Nat.div_lt_iff_lt_mul hz]; exact ho
      have h5:=((h4 (o / z) hi).2 (o % z) (Nat.mod_lt _ hz)).1
      rw [show o / z * z+o % z=o from by rw [Nat.mul_comm,Nat.div_add_mod]] at h5
      have h6:cur.getD o undef=v:=by simp [Array.getD_eq_getD_getElem?,hv]
      rw [h6] at h5
      exact ⟨h5,cur,e,(0,0),h1,hv⟩
     ·cases hv
    ·rw [(hst.2 (by omega)).2] at hv
     cases hv
   ·simp only [aH,if_neg hbb] at hv
    exact m.stab b o v hv
  ·intro b o hb'
   simp only [aH]
   have:B≤bn:=by
    by_cases hc:0 < c
    ·rcases m.own2 bn _ (howner bn (hst.1 hc).1 hc) with h1 | ⟨_,id',h1,h2,_⟩
     ·exact h1
     ·simp only [Sum.inl.injEq] at h1
      omega
    ·rw [(hst.2 (by omega)).1]
     exact m.base
   rw [if_neg (by omega)]
   exact m.old b o hb'
  ·intro j x hx hnx
   rcases aN hx with ⟨_,hx'⟩ | ⟨hj,h3⟩
   ·cases hx'
   ·obtain ⟨o',h1,h4,h5⟩:=m.vars j x h3 hnx
    refine ⟨o',h1,h4.imp fun i v hi hr=>hr.more hle,fun o=>?_⟩
    simp only [aH]
    rw [if_neg (hne _ (.inl j) ⟨x,h3,.inl ⟨hnx,rfl⟩⟩ (fun hh=>hj (Sum.inl.inj hh)))]
    exact h5 o
  ·intro j fw z2 n2 g2 hx
   rcases aN hx with ⟨_,hx'⟩ | ⟨hj,h3⟩
   ·cases hx'
   ·obtain ⟨a1,c',h1,h2⟩:=m.rows j fw z2 n2 g2 h3
    refine ⟨a1,c',h1,fun b hb hc=>?_⟩
    obtain ⟨h4,o',h5,h6⟩:=h2 b hb hc
    refine ⟨fun q=>?_,o',h5,h6.mono hle⟩
    simp only [aH]
    rw [if_neg (hne _ (.inl j) ⟨_,h3,.inr ⟨fw,z2,n2,g2,c',rfl,by rw [h1.at_,hb],hc⟩⟩ (fun hh=>hj (Sum.inl.inj hh)))]
    exact h4 q
  ·intro j x hx i hi
   rcases aN hx with ⟨rfl,hx'⟩ | ⟨hj,h3⟩
   ·cases hx'
    simp at hi
   ·obtain ⟨v,h4,h5,h6⟩:=m.froz j x h3 i hi
    exact ⟨v,hle _ _ _ h4,h5.mono hle,h6⟩
  ·intro i z2 n2 hi
   obtain ⟨a1,c',h1,h2,h3⟩:=m.toks i z2 n2 hi
   refine ⟨a1,c',h1,h2,fun hn=>?_⟩
   obtain ⟨b,cur,e',h4,h5,h6,h7⟩:=h3 hn
   refine ⟨b,cur,e',h4,h5,h6,fun o ho=>?_⟩
   simp only [aH]
   rw [if_neg (hne b (.inr i) ⟨z2,n2,c',hi,by rw [h1,h4],hn⟩ (by simp))]
   exact h7 o ho
  ·exact fun b k k' hk hk'=>m.own1 b k k' (hown b k hk).1 (hown b k' hk').1
  ·exact fun b k hk=>m.own2 b k (hown b k hk).1
  ·intro b r hr
   obtain ⟨h1,h2,h3,cur,e,h4,h5⟩:=m.resv b r hr
   have hlt:=(Array.getElem?_eq_some_iff.1 h4).1
   refine ⟨h1,fun k hk=>h2 k (hown b k hk).1,fun o ho=>?_,cur,e,h4,h5⟩
   simp only [aH]
   rw [if_neg (fun hbb=>?_)]
   ·exact h3 o ho
   ·by_cases hc:0 < c
    ·exact h2 _ (hbb ▸ howner bn (hst.1 hc).1 hc)
    ·have:=(hst.2 (by omega)).1
     omega
  ·intro j x va n2 ks vs hx hxd
   rcases aN hx with ⟨_,hx'⟩ | ⟨_,h3⟩
   ·cases hx'
   ·exact m.lins j x va n2 ks vs h3 hxd
theorem aAZ {l:List D} {t:Nat} {d:D} (h:nth l t .dead=d) (hd:d≠.dead):t < l.length:=by
 rcases Nat.lt_or_ge t l.length with h1 | h1
 ·exact h1
 ·rw [gO l _ h1] at h
  exact absurd h.symm hd
theorem aE4 {n t:Nat} {k:St→Prop} (hnp:np≤n) (r:Rel F B np w0 ext σ0 G s a w) (hcl:∀ h,Clean n h s) (hk:zI n t s k) :
  ∃ G' s2,k s2∧Rel F B np w0 ext σ0 G' s2 a w∧∀ h,Clean (n+1) h s2:=by
 unfold zI at hk
 split at hk
 ·rename_i s' hs'
  unfold aDN at hs'
  split at hs'
  ·rename_i j z g hd
   split at hs'
   ·rename_i z' htk
    cases hb:Nat.beq z' z with
    | false=>rw [hb] at hs'; cases hs'
    | true =>
    rw [hb] at hs'
    cases hs'
    have:=Nat.eq_of_beq_eq_true hb
    subst this
    have ht:=aAZ hd (by simp)
    have hslot:=r.slots t ht
    rw [hd] at hslot
    obtain ⟨_,htag⟩:=hslot.slice_inv
    have hv:=(htag z' 0 htk).2 rfl
    obtain ⟨ad,c,hρ,_,htail⟩:=r.mem.toks j z' 0 htk
    rw [hρ] at hv
    have c1:=hcl (n+1)
    have hsub:∀ i e,(bif Nat.beq i j then none else s.tk i)=some e→s.tk i=some e:=by
     intro i e h
     cases hij:Nat.beq i j with
     | true=>rw [hij] at h; cases h
     | false=>rw [hij] at h; exact h
    have m0:=r.mem.restrict (hp':=s.hp) (tk':=fun q=>bif Nat.beq q j then none else s.tk q) (fun _ _ h=>h) hsub
    have hfree:s.hp n=none:=by
     cases hh:s.hp n with
     | none=>rfl
     | some x =>
      have:=(c1.hp n x.1 x.2 hh).1
      omega
    have m1:=m0.addArr (id:=n) (z:=z') (c:=c) (ad:=ad) hnp hfree (fun hc=>by
     obtain ⟨b,cur,e,h1,h2,h3,h4⟩:=htail hc
     have how:bO G s.hp s.tk b (.inr j):=⟨z',0,c,htk,by rw [hρ,h1],hc⟩
     refine ⟨b,cur,e,h1,h2,h3,fun o=>h4 o (by omega),fun k hk=>?_,?_⟩
     ·have hk2:bO G s.hp s.tk b k:=by
       cases k with
       | inl i=>exact hk
       | inr i =>
        obtain ⟨z1,n1,c1,e1,e2,e3⟩:=hk
        exact ⟨z1,n1,c1,hsub _ _ e1,e2,e3⟩
      have:=r.mem.own1 _ _ _ hk2 how
      subst this
      obtain ⟨z1,n1,c1,e1,_⟩:=hk
      simp only [Nat.beq_refl,cond_true] at e1
      cases e1
     ·refine ⟨?_,?_⟩
      ·rcases r.mem.own2 b _ how with h5 | ⟨_,id,h5,_⟩
       ·exact h5
       ·cases h5
      ·cases hg:G.γ b with
       | none=>rfl
       | some r2=>exact absurd how ((r.mem.resv b r2 hg).2.1 _)) (fun id' f cs' h=>(c1.hp id' f cs' h).2)
    have kk:Keeps n (n+1) G { G with η:=fun i k=>if i=n then (if k=0 then some (.slice ad 0 c) else none) else G.η i k } s.tk (fun q=>bif Nat.beq q j then none else s.tk q) :=
     ⟨SgLe.refl _,fun _ _=>rfl,fun i z m _ e=>⟨z,m,hsub _ _ e,Nat.le_refl _,fun _=>rfl⟩,fun i k v hi e=>by simp only; rw [if_neg (by omega)]; exact e⟩
    refine ⟨_,_,hk,⟨r.defers,by simp only [bU]; exact r.size,fun i hi'=>?_,m1,r.par⟩,fun h=>?_⟩
    ·simp only [bU] at hi'
     simp only
     rw [eT]
     by_cases hti:t=i
     ·subst hti
      rw [if_pos ⟨rfl,hi'⟩,hv]
      exact .msl n z' 0 ad c (by simp) (Nat.zero_le _) (fun h=>absurd rfl h)
     ·rw [if_neg (fun h=>hti h.1)]
      exact (r.slots i hi').keep kk (c1.fr i hi')
    ·have c2:=(hcl h).sub (Nat.le_succ n) (Nat.le_refl h)
     refine ⟨fun i hi'=>?_,fun i f cs' hx=>?_,fun i e' hx=>c2.tk i e' (hsub _ _ hx)⟩
     ·simp only [bU] at hi'
      simp only
      rw [eT]
      by_cases hti:t=i
      ·rw [if_pos ⟨hti,hi'⟩]
       exact a7 (by omega)
      ·rw [if_neg (fun h=>hti h.1)]
       exact c2.fr i hi'
     ·rcases aN hx with ⟨rfl,hx'⟩ | ⟨_,hx'⟩
      ·cases hx'
       exact ⟨by omega,rfl⟩
      ·exact c2.hp i f cs' hx'
   ·cases hs'
  ·cases hs'
 ·exact hk.elim
theorem aGU {n t:Nat} {k:St→Prop} (r:Rel F B np w0 ext σ0 G s a w) (hcl:∀ h,Clean n h s) (hk:aFH t s k) :
  ∃ G' s2,k s2∧Rel F B np w0 ext σ0 G' s2 a w∧∀ h,Clean n h s2:=by
 unfold aFH at hk
 split at hk
 ·rename_i p s' hs'
  obtain ⟨hp',hk⟩:=hk
  unfold aG6 at hs'
  split at hs'
  ·rename_i i z nn hd
   split at hs'
   ·rename_i z' n' g hi
    cases hb:Nat.beq z' z with
    | false=>rw [hb] at hs'; cases hs'
    | true =>
    rw [hb] at hs'
    simp only [cond_true,Option.some.injEq,Prod.mk.injEq] at hs'
    obtain ⟨e1,rfl⟩:=hs'
    have e1:n'=nn:=by rw [e1]; exact hp'
    subst e1
    have:=Nat.eq_of_beq_eq_true hb
    subst this
    have ht:=aAZ hd (by simp)
    have hslot:=r.slots t ht
    rw [hd] at hslot
    obtain ⟨σ',ad,c,hle,hη,hrp,m1⟩:=r.mem.freezeArr hi
    obtain ⟨ad2,c2,hv,h2,_⟩:=hslot.msl_inv
    rw [hη] at h2
    cases h2
    have kk:Keeps 0 0 G { G with σ:=σ' } s.tk s.tk:=⟨hle,fun _ _=>rfl,fun i z m _ e=>⟨z,m,e,Nat.le_refl _,fun _=>rfl⟩,fun _ _ _ _ e=>e⟩
    refine ⟨_,_,hk,⟨r.defers,by simp only [bU]; exact r.size,fun q hq=>?_,m1,r.par⟩,fun h=>⟨fun q hq=>?_,fun q f cs' hx=>?_,(hcl h).tk⟩⟩
    ·simp only [bU] at hq
     simp only
     rw [eT]
     by_cases hti:t=q
     ·subst hti
      rw [if_pos ⟨rfl,hq⟩,hv]
      exact .any (.cell (.pure hrp trivial))
     ·rw [if_neg (fun h=>hti h.1)]
      exact (r.slots q hq).keep kk (n9 _)
    ·simp only [bU] at hq
     simp only
     rw [eT]
     by_cases hti:t=q
     ·rw [if_pos ⟨hti,hq⟩]
      rfl
     ·rw [if_neg (fun h=>hti h.1)]
      exact (hcl h).fr q hq
    ·rcases aN hx with ⟨rfl,hx'⟩ | ⟨_,hx'⟩
     ·cases hx'
      exact ⟨((hcl h).hp _ _ _ hi).1,rfl⟩
     ·exact (hcl h).hp q f cs' hx'
   ·cases hs'
  ·cases hs'
 ·exact hk.elim
end
section
variable {E:Env} {ops:Array Oper} {A:Nat→AO} {s:St} {K:St→Prop}
theorem xI:∀ {l:List Nat} {x y:Nat},bef l x y=true→[x,y].Sublist l
 | [],_,_,h=>by simp [bef] at h
 | a::l,x,y,h=>by
  simp only [bef] at h
  cases hb:Nat.beq a x with
  | true =>
   rw [hb] at h
   have:=Nat.eq_of_beq_eq_true hb
   subst this
   simp only [cond_true,List.any_eq_true] at h
   obtain ⟨z,hz,h1⟩:=h
   have:=Nat.eq_of_beq_eq_true h1
   subst this
   exact List.Sublist.cons_cons _ (List.singleton_sublist.2 hz)
  | false =>
   rw [hb] at h
   exact .cons _ (xI h)
theorem aDI:∀ {l:List Nat} {x y:Nat},l.Nodup→[x,y].Sublist l→bef l x y=true
 | [],_,_,_,h=>by simp at h
 | a::l,x,y,hn,h=>by
  have hn':=List.nodup_cons.1 hn
  simp only [bef]
  cases hb:Nat.beq a x with
  | true =>
   have:=Nat.eq_of_beq_eq_true hb
   subst this
   simp only [cond_true,List.any_eq_true]
   cases h with
   | cons _ h=>exact absurd (h.subset (by simp)) hn'.1
   | cons_cons _ h=>exact ⟨y,List.singleton_sublist.1 h,Nat.beq_refl _⟩
  | false =>
   simp only [cond_false]
   cases h with
   | cons _ h=>exact aDI hn'.2 h
   | cons_cons _ h=>rw [Nat.beq_refl] at hb; cases hb
theorem wC:∀ {l:List Nat} {x y:Nat},x∈l→y∈l→x≠y→[x,y].Sublist l∨[y,x].Sublist l
 | a::l,x,y,hx,hy,hne=>by
  simp only [List.mem_cons] at hx hy
  rcases hx with rfl | hx
  ·rcases hy with rfl | hy
   ·exact absurd rfl hne
   ·exact .inl (.cons_cons _ (List.singleton_sublist.2 hy))
  ·rcases hy with rfl | hy
   ·exact .inr (.cons_cons _ (List.singleton_sublist.2 hx))
   ·exact (wC hx hy hne).imp (.cons _) (.cons _)
theorem jN:∀ {l:List Nat} {x y:Nat},l.Nodup→[x,y].Sublist l→¬[y,x].Sublist l
 | a::l,x,y,hn,h,k=>by
  have hn':=List.nodup_cons.1 hn
  cases h with
  | cons _ h =>
   cases k with
   | cons _ k=>exact jN hn'.2 h k
   | cons_cons _ k=>exact hn'.1 (h.subset (by simp))
  | cons_cons _ h =>
   cases k with
   | cons _ k=>exact hn'.1 (k.subset (by simp))
   | cons_cons _ k=>exact hn'.1 (h.subset (by simp))
theorem vW (hE:fB E) (hok:∀ i,i < ops.size→jE (A i).op=true∧(A i).args.all mG=true) (hdis:∀ i j,i≠j→i < ops.size→j < ops.size→Dis (A i) (A j)) :
  ∀ (π ρ:List Nat) (s:St),ρ.Nodup→(∀ j∈ρ,j < ops.size)→ρ.Perm π→(∀ q p,[q,p].Sublist ρ→[p,q].Sublist π→Apart (A q) (A p))→(∀ j∈ρ,Tidy (A j).id ((A j).id+bD (A j).op) s)→kN E (ρ.map A) s K→kN E (π.map A) s K
 | [],ρ,s,_,_,hp,_,_,hk=>by
  have:=hp.eq_nil
  subst this
  exact hk
 | p::π,ρ,s,hn,hlt,hp,h,ht,hk=>by
  have hm:p∈ρ:=hp.symm.subset (by simp)
  obtain ⟨l1,l2,hL⟩:=List.append_of_mem hm
  subst hL
  have hsub:(l1++l2).Sublist (l1++p::l2):=List.Sublist.append (.refl _) (.cons _ (.refl _))
  have hperm:(l1++l2).Perm π:=by
   have:(p::(l1++l2)).Perm (p::π):=List.perm_middle.symm.trans hp
   exact List.perm_cons p |>.1 this
  have hne:∀ q∈l1++l2,q≠p:=fun q hq he=>by
   subst he
   have:=(List.perm_middle (a:=q) (l₁:=l1) (l₂:=l2)).nodup_iff.1 hn
   exact (List.nodup_cons.1 this).1 hq
  have hlt1:∀ q∈l1++l2,q < ops.size:=fun q hq=>hlt q (hsub.subset hq)
  have hpl:=hlt p hm
  have hn1:=hn.sublist hsub
  rw [List.map_append,List.map_cons] at hk
  have hbr:=aF9 (p:=A p) hE (hok p hpl).1 (hok p hpl).2 (l1:=l1.map A) (l2:=l2.map A) (s:=s) (K:=K) (fun q hq=>by
   obtain ⟨j,hj,rfl⟩:=List.mem_map.1 hq
   have hj2:j∈l1++l2:=by simp [hj]
   refine ⟨h j p ?_ ?_,(hok j (hlt1 j hj2)).1,(hok j (hlt1 j hj2)).2,hdis j p (hne j hj2) (hlt1 j hj2) hpl⟩
   ·exact (List.Sublist.append (List.singleton_sublist.2 hj) (List.singleton_sublist.2 List.mem_cons_self):([j]++[p]).Sublist (l1++p::l2))
   ·exact .cons_cons _ (List.singleton_sublist.2 (hperm.subset hj2))) (by
   refine List.pairwise_map.2 ((List.pairwise_append.1 hn1).1.imp_of_mem fun {a b} ha hb hab=>?_)
   exact hdis _ _ hab (hlt1 _ (by simp [ha])) (hlt1 _ (by simp [hb]))) (ht p hm) (fun q hq=>by
   obtain ⟨j,hj,rfl⟩:=List.mem_map.1 hq
   exact ht j (by simp [hj])) hk
  rw [List.map_cons]
  refine pO hE (fun s1 h1=>?_) (tL hE (hok p hpl).1 (hok p hpl).2 hbr)
  obtain ⟨h1,h2⟩:=h1
  refine vW hE hok hdis π (l1++l2) s1 hn1 hlt1 hperm (fun q r hq hr=>h q r (hq.trans hsub) (.cons _ hr)) (fun j hj=>h2 _ _ (ht j (hsub.subset hj)) (hdis p j (fun e=>hne j hj e.symm) hpl (hlt1 j hj))) ?_
  rw [List.map_append]
  exact h1
theorem yX (hb:eQ ops.toList 0=true):∀ (fuel t:Nat) (listed:Array Bool),listed.size=ops.size→aB5 ops listed→(rem ops.size listed).length≤fuel →
  (rem ops.size listed).Perm (Region.linearise.go .any ops fuel t listed [])∧(Region.linearise.go .any ops fuel t listed []).Pairwise fun a b=>iC ops ops.size a b=false
 | 0,t,listed,hsz,hc,hf=>by
  have:rem ops.size listed=[]:=List.length_eq_zero_iff.1 (by omega)
  rw [this]
  simp [Region.linearise.go]
 | fuel+1,t,listed,hsz,hc,hf=>by
  rw [xQ]
  split
  ·rename_i i hi
   obtain ⟨hm,o,ho,hafter⟩:=(kF hsz).1 (List.mem_of_getElem? hi)
   have hlt:=(eJ.1 hm).1
   obtain ⟨l1,l2,hL⟩:=List.append_of_mem hm
   have hs:=kO ops.size listed
   rw [hL] at hs
   obtain ⟨hfil,hl1⟩:=pG hs
   have hset:rem ops.size (listed.setIfInBounds i true)=l1++l2:=by rw [pZ (by omega),hL,hfil]
   have hbd:∀ j,bL listed j=true→j < ops.size:=fun j hj=>by
    rcases Nat.lt_or_ge j ops.size with h | h
    ·exact h
    ·have:listed[j]? = none:=Array.getElem?_eq_none (by omega)
     simp [bL,this] at hj
   obtain ⟨h1,h2⟩:=yX hb fuel (t / (Region.ready .any ops listed).length) (listed.setIfInBounds i true) (by simp [hsz]) (fun j o' ho' hj e he hbi=>by
    rw [nX (by omega)] at hj ⊢
    simp only [Bool.or_eq_true,beq_iff_eq] at hj ⊢
    rcases hj with rfl | hj
    ·rw [ho] at ho'
     cases ho'
     exact .inr (hafter e he hbi)
    ·exact .inr (hc j o' ho' hj e he hbi)) (by
    rw [hset]
    rw [hL] at hf
    simp only [List.length_append,List.length_cons] at hf ⊢
    omega)
   refine ⟨?_,List.pairwise_cons.2 ⟨fun b hbm=>?_,h2⟩⟩
   ·rw [hL]
    rw [hset] at h1
    exact List.perm_middle.trans (List.Perm.cons _ h1)
   ·have hbr:b∈rem ops.size listed:=by
     have:=h1.symm.subset hbm
     rw [pZ (by omega),List.mem_filter] at this
     exact this.1
    cases hr:iC ops ops.size i b with
    | false=>rfl
    | true =>
     have:=kP hc _ i b o ho hafter hbd hr
     rw [(eJ.1 hbr).2] at this
     cases this
  ·rename_i hn
   have:=uF hsz hb (vP hn)
   rw [this]
   simp
theorem y8 {α:Type} (f:α→Bool):∀ (l:List α),l.map f∈aEX l.length
 | []=>by simp [aEX]
 | a::l=>by
  simp only [aEX,List.map_cons,List.length_cons,List.mem_flatMap]
  refine ⟨l.map f,y8 f l,?_⟩
  cases f a <;> simp
theorem oA (f:Nat×Nat→Bool):∀ {C:List (Nat×Nat)} {i j:Nat},(i,j)∈C→mI C (C.map f) i j=f (i,j)
 | (a,b)::C,i,j,h=>by
  simp only [List.map_cons,mI]
  cases hb:(Nat.beq a i&&Nat.beq b j) with
  | true =>
   rw [Bool.and_eq_true] at hb
   have e1:=Nat.eq_of_beq_eq_true hb.1
   have e2:=Nat.eq_of_beq_eq_true hb.2
   subst e1 e2
   rfl
  | false =>
   simp only [List.mem_cons,Prod.mk.injEq] at h
   rcases h with ⟨rfl,rfl⟩ | h
   ·simp [Nat.beq_refl] at hb
   ·exact oA f h
theorem aBA {as:List AO} {i j:Nat}:(i,j)∈hJ ops as↔i < j∧j < ops.size∧f0 as i j=false∧iC ops ops.size j i=false:=by
 unfold hJ
 simp only [List.mem_flatMap,List.mem_range,List.mem_map,List.mem_filter,Bool.and_eq_true,decide_eq_true_eq,Bool.not_eq_true',Prod.mk.injEq]
 constructor
 ·rintro ⟨a,h1,b,⟨h2,⟨h3,h4⟩,h5⟩,rfl,rfl⟩
  exact ⟨h3,h1,h4,h5⟩
 ·rintro ⟨h1,h2,h3,h4⟩
  exact ⟨j,h2,i,⟨by omega,⟨h1,h3⟩,h4⟩,rfl,rfl⟩
theorem lD:∀ {l:List Nat},mS l=true→l.Nodup
 | [],_=>List.nodup_nil
 | a::l,h=>by
  simp only [mS,Bool.and_eq_true,Bool.not_eq_true',List.any_eq_false] at h
  exact List.nodup_cons.2 ⟨fun hm=>h.1 a hm (Nat.beq_refl a),lD h.2⟩
theorem qO {l:List Nat} {n:Nat} (h2:l.Nodup) (h1:∀ i,i < n→i∈l) (h3:∀ i∈l,i < n):l.Perm (List.range n):=by
 rw [List.perm_iff_count]
 intro a
 by_cases ha:a < n
 ·rw [List.Nodup.count h2,List.Nodup.count List.nodup_range,if_pos (h1 a ha),if_pos (List.mem_range.2 ha)]
 ·rw [List.count_eq_zero_of_not_mem (fun h=>ha (h3 a h)),List.count_eq_zero_of_not_mem (fun h=>ha (List.mem_range.1 h))]
theorem yW {as:List AO} (h:jP ops as=true) {π:List Nat} (hp:(List.range ops.size).Perm π) (hr:π.Pairwise fun a b=>iC ops ops.size a b=false) :
  ∃ ρ:List Nat,ρ.filterMap (fun i=>as[i]?)∈o7 ops as∧ρ.Nodup∧(∀ i∈ρ,i < ops.size)∧ρ.Perm π∧∀ q p,[q,p].Sublist ρ→[p,q].Sublist π→(q < p→f0 as q p=true)∧(p < q→f0 as p q=true):=by
 unfold jP at h
 simp only [Bool.and_eq_true,List.all_eq_true] at h
 have hn:π.Nodup:=hp.nodup_iff.1 List.nodup_range
 have hmem:∀ i,i < ops.size→i∈π:=fun i hi=>hp.subset (List.mem_range.2 hi)
 let C:=hJ ops as
 let S:=C.map fun x=>bef π x.2 x.1
 have hS:(S,r8 (p4 ops as C S) ops.size (List.range ops.size))∈x0 ops as:=by
  unfold x0
  exact List.mem_map.2 ⟨S,y8 _ C,rfl⟩
 have hrow:=h.2 _ hS
 -- what must be ahead is ahead
 have hprec:∀ a b,a < ops.size→b < ops.size→p4 ops as C S a b=true→[a,b].Sublist π:=fun a b ha hb hpr=>by
  unfold p4 at hpr
  cases hlt:Nat.blt a b with
  | true =>
   rw [hlt] at hpr
   have hab:a < b:=by rw [Nat.blt_eq] at hlt; exact hlt
   simp only [cond_true,Bool.and_eq_true,Bool.or_eq_true,Bool.not_eq_true'] at hpr
   rcases wC (hmem a ha) (hmem b hb) (by omega) with h1 | h1
   ·exact h1
   ·exfalso
    have hre:iC ops ops.size b a=false:=List.pairwise_iff_forall_sublist.1 hr h1
    rcases hpr.2 with h2 | h2
    ·rw [hre] at h2; cases h2
    ·have hC:(a,b)∈C:=aBA.2 ⟨hab,hb,hpr.1,hre⟩
     rw [oA _ hC] at h2
     rw [aDI hn h1] at h2
     cases h2
  | false =>
   rw [hlt] at hpr
   simp only [cond_false,Bool.and_eq_true,Bool.not_eq_true'] at hpr
   obtain ⟨h0,⟨h1,h2⟩,h3⟩:=hpr
   have hba:b < a:=by rw [Nat.blt_eq] at h0; exact h0
   have hC:(b,a)∈C:=aBA.2 ⟨hba,ha,h1,h2⟩
   rw [oA _ hC] at h3
   exact xI h3
 unfold aDE at hrow
 generalize hR:r8 (p4 ops as C S) ops.size (List.range ops.size)=R at hS hrow
 obtain ⟨ρ,left⟩:=R
 cases left with
 | nil =>
  simp only [Bool.and_eq_true,List.all_eq_true,List.mem_range,Bool.or_eq_true,Bool.not_eq_true'] at hrow
  obtain ⟨⟨⟨h1,h2⟩,h3⟩,h4⟩:=hrow
  have h2:=lD h2
  have h3:∀ i∈ρ,i < ops.size:=fun i hi=>by have:=h3 i hi; rw [Nat.blt_eq] at this; exact this
  have hperm:ρ.Perm π:=(qO h2 (fun i hi=>by have:=h1 i hi; obtain ⟨j,hj,e⟩:=List.any_eq_true.1 this; have:=Nat.eq_of_beq_eq_true e; rw [this]; exact hj) h3).trans hp
  have key:∀ q p,[q,p].Sublist ρ→[p,q].Sublist π→p4 ops as C S p q=false∧p4 ops as C S q p=false:=fun q p hq hpp=>by
   have lq:=h3 q (hq.subset (by simp))
   have lp:=h3 p (hq.subset (by simp))
   constructor
   ·cases hx:p4 ops as C S p q with
    | false=>rfl
    | true =>
     rcases h4 p lp q lq with h5 | h5
     ·rw [hx] at h5; cases h5
     ·exact absurd (xI h5) (jN h2 hq)
   ·cases hx:p4 ops as C S q p with
    | false=>rfl
    | true=>exact absurd (hprec q p lq lp hx) (jN hn hpp)
  refine ⟨ρ,?_,h2,h3,hperm,fun q p hq hpp=>?_⟩
  ·unfold o7
   exact List.mem_map.2 ⟨_,List.mem_filter.2 ⟨hS,rfl⟩,rfl⟩
  ·obtain ⟨k1,k2⟩:=key q p hq hpp
   have half:∀ a b,a < b→p4 ops as C S a b=false→p4 ops as C S b a=false→f0 as a b=true:=fun a b hab e1 e2=>by
    unfold p4 at e1 e2
    have b1:Nat.blt a b=true:=by rw [Nat.blt_eq]; exact hab
    have b2:Nat.blt b a=false:=by rw [← Bool.not_eq_true,Nat.blt_eq]; omega
    rw [b1] at e1
    rw [b2] at e2
    simp only [cond_true,cond_false] at e1 e2
    rw [b1] at e2
    cases hap:f0 as a b with
    | true=>rfl
    | false =>
     rw [hap] at e1 e2
     simp only [Bool.not_false,Bool.true_and,Bool.or_eq_false_iff,Bool.not_eq_false'] at e1 e2
     rw [e1.1,e1.2] at e2
     simp at e2
   exact ⟨fun hlt=>half q p hlt k2 k1,fun hlt=>half p q hlt k1 k2⟩
 | cons x left =>
  exfalso
  simp only [Bool.and_eq_true,List.all_eq_true,List.any_eq_true] at hrow
  obtain ⟨h1,h2⟩:=hrow
  have h1:∀ i∈x::left,i < ops.size:=fun i hi=>by have:=h1 i hi; rw [Nat.blt_eq] at this; exact this
  -- the first one of those left
  have first:∀ (l:List Nat),(∃ i∈x::left,i∈l)→∃ l1 i l2,l=l1++i::l2∧i∈x::left∧∀ j∈l1,j ∉ x::left:=by
   intro l
   induction l with
   | nil=>rintro ⟨_,_,h⟩; cases h
   | cons a l ih =>
    rintro ⟨i,hi,hil⟩
    by_cases ha:a∈x::left
    ·exact ⟨[],a,l,rfl,ha,fun _ h=>by cases h⟩
    ·have hil':i∈l:=by
      rcases List.mem_cons.1 hil with rfl | h
      ·exact absurd hi ha
      ·exact h
     obtain ⟨l1,i',l2,h3,h4,h5⟩:=ih ⟨i,hi,hil'⟩
     refine ⟨a::l1,i',l2,by rw [h3]; rfl,h4,fun j hj=>?_⟩
     rcases List.mem_cons.1 hj with rfl | hj
     ·exact ha
     ·exact h5 j hj
  obtain ⟨l1,i,l2,h3,h4,h5⟩:=first π ⟨x,by simp,hmem x (h1 x (by simp))⟩
  obtain ⟨j,hj,hji⟩:=h2 i h4
  have hs:=hprec j i (h1 j hj) (h1 i h4) hji
  have hjm:j∈π:=hs.subset (by simp)
  rw [h3] at hjm
  simp only [List.mem_append,List.mem_cons] at hjm
  rcases hjm with h6 | rfl | h6
  ·exact h5 j h6 hj
  ·exact jN hn hs hs
  ·refine jN hn hs ?_
   rw [h3]
   exact List.sublist_append_of_sublist_right (.cons_cons _ (List.singleton_sublist.2 h6))
end
section
variable {P:Program} {F:Nat→FuncId} {ft:FT} {E:Env} {np:Nat}
theorem vY {A:Nat→AO} {as:List AO} (h:∀ (i:Nat) (x:AO),as[i]? = some x→A i=x):(List.range as.length).map A=as:=by
 apply List.ext_getElem?
 intro i
 simp only [List.getElem?_map]
 by_cases hi:i < as.length
 ·rw [List.getElem?_range hi,List.getElem?_eq_getElem hi]
  simp only [Option.map_some,Option.some.injEq]
  exact h i _ (List.getElem?_eq_getElem hi)
 ·rw [List.getElem?_eq_none (by simpa using hi),List.getElem?_eq_none (by omega)]
  rfl
theorem aAS {ops:Array Oper} {as:List AO} (h:sI ops as=true):eQ ops.toList 0=true∧∀ (i j:Nat) (x y:AO),i < j→as[i]? = some x→as[j]? = some y→Apart x y∨iC ops ops.size j i=true:=by
 unfold sI at h
 simp only [Bool.and_eq_true,List.all_eq_true] at h
 refine ⟨h.1,fun i j x y hij hx hy=>?_⟩
 have h1:(y,j)∈as.zipIdx:=List.mem_zipIdx_iff_getElem?.2 hy
 have h2:(x,i)∈as.zipIdx:=List.mem_zipIdx_iff_getElem?.2 hx
 have h3:=h.2 (y,j) h1 (x,i) h2
 simp only [Bool.or_eq_true,Bool.not_eq_true',decide_eq_false_iff_not] at h3
 rcases h3 with (h3 | h3) | h3
 ·exact absurd hij h3
 ·exact .inl (uJ h3)
 ·exact .inr h3
theorem aEB (hE:EnvOk P F E) (hft:∀ f j,ag ft f=some j→F j=f) (hmix:P.follows .mixedOrders=true) {id:Nat} {ops:Array Oper} {draw:Bool} {at_ n:Nat} {as:List AO} (h:tV P ft np ops ops.toList at_=some (as,n)) (hd:draw=true→sI ops as=true) :
  aCJ P F E np (.region id ops draw) (.region as) at_ n:=by
 intro B w0 ext σ0 G s a w Q Qm hnp r hcl hk hn
 obtain ⟨hlen,hle,hA,hids⟩:=iN h
 have hlen':ops.size=as.length:=by simpa using hlen
 let dummy:AO:=⟨none,0,.move,[],none⟩
 let A:Nat→AO:=fun i=>as.getD i dummy
 have hAs:∀ (i:Nat) (x:AO),as[i]? = some x→A i=x:=fun i x hx=>by
  show as.getD i dummy=x
  rw [List.getD_eq_getElem?_getD,hx]
  rfl
 have hget:∀ i,i < ops.size→as[i]? = some (A i):=fun i hi=>by
  have hi':i < as.length:=by omega
  have:=List.getElem?_eq_getElem hi'
  rw [hAs i _ this]
  exact this
 have hAOR:∀ (i:Nat) (o:Oper),ops[i]? = some o→AOR P ft np ops o (A i):=fun i o ho=>by
  have hi:=(Array.getElem?_eq_some_iff.1 ho).1
  exact (hA i o (A i) (by rw [Array.getElem?_toList]; exact ho) (hget i hi)).1
 have hbound:∀ i,i < ops.size→at_≤(A i).id∧(A i).id+bD (A i).op≤n:=fun i hi =>
  (hA i ops[i] (A i) (by rw [Array.getElem?_toList]; exact Array.getElem?_eq_getElem hi) (hget i hi)).2
 have hmap:(List.range ops.size).map A=as:=by rw [hlen']; exact vY hAs
 have hdis:∀ i j,i < j→j < ops.size→Dis (A i) (A j):=fun i j hij hj=>by
  have hi':i < as.length:=by omega
  have hj':j < as.length:=by omega
  have:=List.pairwise_iff_getElem.1 hids i j hi' hj' hij
  have e1:A i=as[i]:=hAs i _ (List.getElem?_eq_getElem hi')
  have e2:A j=as[j]:=hAs j _ (List.getElem?_eq_getElem hj')
  rw [e1,e2]
  exact .inl this
 have hdis2:∀ i j,i≠j→i < ops.size→j < ops.size→Dis (A i) (A j):=fun i j h1 h2 h3=>by
  rcases Nat.lt_or_ge i j with h | h
  ·exact hdis i j h h3
  ·exact (hdis j i (by omega) h2).symm
 have hclj:∀ j,j < ops.size→Clean (A j).id ((A j).id+bD (A j).op) s:=fun j hj=>(hcl _).sub (hbound j hj).1 (Nat.le_refl _)
 have fin:∀ (js:List Nat) (w:World),(∀ j∈js,j < ops.size)→js.Nodup→Rel F B np w0 ext σ0 G s a w→kN E (js.map A) s (Q .normal)→wpOps P ops Qm js a w:=fun js w hlt hnd r hk =>
  wX hE hft hAOR js hlt (fun j hj=>Nat.le_trans hnp (hbound j (hlt j hj)).1) (List.pairwise_map.2 (hnd.imp_of_mem fun ha hb hab=>hdis2 _ _ hab (hlt _ ha) (hlt _ hb))) r (fun j hj=>hclj j (hlt j hj)) hk fun s' a' w' G' hk' r' hc =>
   hn .normal s' a' w' G' hk' r' fun h=>hc n h ((hcl h).sub hle (Nat.le_refl _)) fun j hj=>.inl (hbound j (hlt j hj)).2
 have hk':kN E ((List.range ops.size).map A) s (Q .normal):=by rw [hmap]; exact hk
 cases draw with
 | false=>exact wp_region (fin _ w (fun j hj=>List.mem_range.1 hj) List.nodup_range r hk')
 | true =>
  obtain ⟨hb,hap⟩:=aAS (hd rfl)
  refine wp_region_draw fun t=>?_
  have hs:Region.schedule (P.follows .mixedOrders) ops t=Region.linearise .any ops t:=by
   simp only [Region.schedule,hmix,Bool.true_or,if_true]
  rw [hs]
  have hrem:rem ops.size (Array.replicate ops.size false)=List.range ops.size:=by
   unfold rem
   refine List.filter_eq_self.2 fun i hi=>?_
   have hi:=List.mem_range.1 hi
   simp [bL,hi]
  obtain ⟨hnd,hmem⟩:=aC0 (ops:=ops) ops.size t (Array.replicate ops.size false) (by simp)
  refine fin _ _ (fun j hj=>(eJ.1 (hmem j hj)).1) hnd ⟨r.defers,r.size,r.slots,r.mem.drew,r.par⟩ ?_
  refine zF hE.mf hb (fun i j hij hj=>hap i j _ _ hij (hget i (by omega)) (hget j hj)) hdis (fun i hi=>⟨(hAOR i _ (Array.getElem?_eq_getElem hi)).ok,(hAOR i _ (Array.getElem?_eq_getElem hi)).ax⟩) ops.size t _ s (by simp) (fun j o ho hl=>?_) ?_ (fun j hj=>?_) ?_
  ·exfalso
   have hj:=(Array.getElem?_eq_some_iff.1 ho).1
   simp [bL,hj] at hl
  ·rw [hrem]; simp
  ·exact r.tidy (hclj j (eJ.1 hj).1)
  ·rw [hrem]; exact hk'
theorem rH {l:List AO} {s:St} {K:St→Prop}:∀ {L:List (List AO)},l∈L→o8 E L s K→kN E l s K
 | [],h,_=>by cases h
 | [x],h,hk=>by
  rw [List.mem_singleton.1 h]
  exact hk
 | x::y::L,h,hk=>by
  rcases List.mem_cons.1 h with rfl | h
  ·exact hk.1
  ·exact rH h hk.2
theorem aEL (hE:EnvOk P F E) (hft:∀ f j,ag ft f=some j→F j=f) (hmix:P.follows .mixedOrders=true) {id:Nat} {ops:Array Oper} {at_ n:Nat} {as:List AO} (h:tV P ft np ops ops.toList at_=some (as,n)) (hd:jP ops as=true) :
  aCJ P F E np (.region id ops true) (.orders (o7 ops as)) at_ n:=by
 intro B w0 ext σ0 G s a w Q Qm hnp r hcl hk hn
 obtain ⟨hlen,hle,hA,hids⟩:=iN h
 have hlen':ops.size=as.length:=by simpa using hlen
 let dummy:AO:=⟨none,0,.move,[],none⟩
 let A:Nat→AO:=fun i=>as.getD i dummy
 have hAs:∀ (i:Nat) (x:AO),as[i]? = some x→A i=x:=fun i x hx=>by
  show as.getD i dummy=x
  rw [List.getD_eq_getElem?_getD,hx]
  rfl
 have hget:∀ i,i < ops.size→as[i]? = some (A i):=fun i hi=>by
  have hi':i < as.length:=by omega
  have:=List.getElem?_eq_getElem hi'
  rw [hAs i _ this]
  exact this
 have hAOR:∀ (i:Nat) (o:Oper),ops[i]? = some o→AOR P ft np ops o (A i):=fun i o ho=>by
  have hi:=(Array.getElem?_eq_some_iff.1 ho).1
  exact (hA i o (A i) (by rw [Array.getElem?_toList]; exact ho) (hget i hi)).1
 have hbound:∀ i,i < ops.size→at_≤(A i).id∧(A i).id+bD (A i).op≤n:=fun i hi =>
  (hA i ops[i] (A i) (by rw [Array.getElem?_toList]; exact Array.getElem?_eq_getElem hi) (hget i hi)).2
 have hmap:(List.range ops.size).map A=as:=by rw [hlen']; exact vY hAs
 have hdis:∀ i j,i < j→j < ops.size→Dis (A i) (A j):=fun i j hij hj=>by
  have hi':i < as.length:=by omega
  have hj':j < as.length:=by omega
  have:=List.pairwise_iff_getElem.1 hids i j hi' hj' hij
  have e1:A i=as[i]:=hAs i _ (List.getElem?_eq_getElem hi')
  have e2:A j=as[j]:=hAs j _ (List.getElem?_eq_getElem hj')
  rw [e1,e2]
  exact .inl this
 have hdis2:∀ i j,i≠j→i < ops.size→j < ops.size→Dis (A i) (A j):=fun i j h1 h2 h3=>by
  rcases Nat.lt_or_ge i j with h | h
  ·exact hdis i j h h3
  ·exact (hdis j i (by omega) h2).symm
 have hclj:∀ j,j < ops.size→Clean (A j).id ((A j).id+bD (A j).op) s:=fun j hj=>(hcl _).sub (hbound j hj).1 (Nat.le_refl _)
 have fin:∀ (js:List Nat) (w:World),(∀ j∈js,j < ops.size)→js.Nodup→Rel F B np w0 ext σ0 G s a w→kN E (js.map A) s (Q .normal)→wpOps P ops Qm js a w:=fun js w hlt hnd r hk =>
  wX hE hft hAOR js hlt (fun j hj=>Nat.le_trans hnp (hbound j (hlt j hj)).1) (List.pairwise_map.2 (hnd.imp_of_mem fun ha hb hab=>hdis2 _ _ hab (hlt _ ha) (hlt _ hb))) r (fun j hj=>hclj j (hlt j hj)) hk fun s' a' w' G' hk' r' hc =>
   hn .normal s' a' w' G' hk' r' fun h=>hc n h ((hcl h).sub hle (Nat.le_refl _)) fun j hj=>.inl (hbound j (hlt j hj)).2
 refine wp_region_draw fun t=>?_
 have hs:Region.schedule (P.follows .mixedOrders) ops t=Region.linearise .any ops t:=by
  simp only [Region.schedule,hmix,Bool.true_or,if_true]
 rw [hs]
 have hrem:rem ops.size (Array.replicate ops.size false)=List.range ops.size:=by
  unfold rem
  refine List.filter_eq_self.2 fun i hi=>?_
  have hi:=List.mem_range.1 hi
  simp [bL,hi]
 have hb:eQ ops.toList 0=true:=by
  unfold jP at hd
  simp only [Bool.and_eq_true] at hd
  exact hd.1.1
 obtain ⟨hperm,hpw⟩:=yX (ops:=ops) hb ops.size t (Array.replicate ops.size false) (by simp) (fun j o ho hl=>by
  exfalso
  have hj:=(Array.getElem?_eq_some_iff.1 ho).1
  simp [bL,hj] at hl) (by rw [hrem]; simp)
 rw [hrem] at hperm
 obtain ⟨ρ,h1,h2,h3,h4,h5⟩:=yW hd hperm hpw
 refine fin _ _ (fun j hj=>h3 j (h4.symm.subset hj)) (h4.nodup_iff.1 h2) ⟨r.defers,r.size,r.slots,r.mem.drew,r.par⟩ ?_
 have hmapρ:ρ.filterMap (fun i=>as[i]?)=ρ.map A:=by
  have key:∀ l:List Nat,(∀ i∈l,i < ops.size)→l.filterMap (fun i=>as[i]?)=l.map A:=by
   intro l
   induction l with
   | nil=>intro _; rfl
   | cons i l ih =>
    intro h
    rw [List.filterMap_cons,hget i (h i (by simp))]
    simp only [List.map_cons]
    rw [ih fun j hj=>h j (List.mem_cons_of_mem _ hj)]
  exact key ρ h3
 rw [hmapρ] at h1
 have apA:∀ a b,a < ops.size→b < ops.size→f0 as a b=true→Apart (A a) (A b):=fun a b ha hb hab=>by
  unfold f0 at hab
  rw [hget a ha,hget b hb] at hab
  exact uJ hab
 refine vW hE.mf (fun i hi=>⟨(hAOR i _ (Array.getElem?_eq_getElem hi)).ok,(hAOR i _ (Array.getElem?_eq_getElem hi)).ax⟩) hdis2 _ ρ s h2 h3 h4 (fun q p hq hpp=>?_) (fun j hj=>r.tidy (hclj j (h3 j hj))) (rH h1 hk)
 have lq:=h3 q (hq.subset (by simp))
 have lp:=h3 p (hq.subset (by simp))
 have hne:q≠p:=fun e=>by subst e; exact jN h2 hq hq
 rcases Nat.lt_or_ge q p with h6 | h6
 ·exact apA q p lq lp ((h5 q p hq hpp).1 h6)
 ·exact (apA p q lp lq ((h5 q p hq hpp).2 (by omega))).symm
theorem Rd.ubool_inv {G:Gh} {tk:Nat→Option (Nat×Nat)} {v:Value} (h:Rd F G tk v .ubool):∃ b,v=.bool b:=by
 cases h with | any h=>cases h with | cell h=>cases h with | pure h _=>cases h; exact ⟨_,rfl⟩
theorem wK {l:List D} {j z n i:Nat} {t:Tag} {g:Nat→List D} (h:aG l=true) (_:i=i):aG (upd l j (.slice t z n g))=true:=by
 induction l generalizing j with
 | nil=>rfl
 | cons d l ih =>
  have hd:aG l=true:=by cases d <;> first | exact h | (simp [aG] at h; done)
  cases j with
  | zero=>exact hd
  | succ j =>
   have:=ih (j:=j) hd
   cases d <;> first | exact this | (simp [aG] at h; done)
theorem vJ {k n:Nat} {l:List (Nat×Σ α:Type,α→Tm)}:n≤lU k l n:=by
 unfold lU
 split
 ·rename_i j _ _
  cases (pU k j || s8 k j) with
  | true=>simp only [cond_true]; omega
  | false=>exact Nat.le_refl _
 ·exact Nat.le_refl _
theorem aEK {B:Nat} {w0:World} {ext:List Nat} {σ0:Og} {G:Gh} {s:St} {a:Act} {w:World} {n id j:Nat} {k:St→Prop} (hnp:np≤n) (r:Rel F B np w0 ext σ0 G s a w) (hcl:∀ h,Clean n h s) (hk:uK n id j s k) :
  ∃ G' s2,k s2∧Rel F B np w0 ext σ0 G' s2 a w∧∀ h,Clean (n+1) h s2:=by
 unfold uK at hk
 split at hk
 ·rename_i cs hi
  split at hk
  ·rename_i z m g hd
   obtain ⟨hs,hk⟩:=bZ hk
   obtain ⟨ob,hb,hh,hσ⟩:=r.mem.vars id cs hi (bP hs)
   obtain ⟨c,e,rfl,h2,h3⟩:=hh.cells hs
   have hj:j < cs.length:=by
    rcases Nat.lt_or_ge j cs.length with h | h
    ·exact h
    ·rw [gO cs _ h] at hd; cases hd
   have hv:=h3 j hj
   rw [hd] at hv
   have h3':=h3
   generalize hcv:c.getD j undef=x at hv
   obtain ⟨hrp,av,htag⟩:Rp G.σ x (.slice .full z m g)∧∃ av,x=.slice av m m:=by
    cases hv with
    | pure h1 h2=>exact ⟨h1,h2⟩
   have c1:=hcl (n+1)
   have hno:∀ id' f cs',s.hp id'=some (f,cs')→names n (n+1) cs'=false:=fun id' f cs' h=>(c1.hp id' f cs' h).2
   have m1:=r.mem.addTok n z m m av (Nat.le_refl _) (fun h=>by omega) (fun id' f cs' h q hq ⟨z',m',g',hc⟩=>by
    have:=dB (hno id' f cs' h) hq
    rw [hc] at this
    have:=bR this
    omega)
   have kk:Keeps n (n+1) G { G with ρ:=fun q=>if q=n then .slice av m m else G.ρ q } s.tk (fun q=>bif Nat.beq q n then some (z,m) else s.tk q):=by
    refine ⟨SgLe.refl _,fun _ _=>rfl,fun i z' m' hi' h=>?_,fun _ _ _ _ h=>h⟩
    rcases aN h with ⟨rfl,_⟩ | ⟨hne,h4⟩
    ·omega
    ·exact ⟨z',m',h4,Nat.le_refl _,fun _=>by simp only; rw [if_neg hne]⟩
   have m2:=m1.setObj id cs (upd cs j (.slice (.own n) z m g)) hi (.cells c e (0,0)) (w':=w) ⟨rfl,rfl,rfl,rfl,fun _ _=>rfl⟩ hb (bP hs) (.inl ⟨?_,c,e,rfl,by rw [bU]; exact h2,fun q hq=>?_⟩) (fun x va n2 ks vs h _=>by
    have h8:aG (upd cs j (.slice (.own n) z m g))=true:=wK (i:=0) hs rfl
    rw [h] at h8
    cases x <;> cases h8)
   ·refine ⟨_,_,hk,⟨r.defers,r.size,fun i hi'=>(r.slots i hi').keep kk (c1.fr i hi'),m2,r.par⟩,fun h=>⟨fun i hi'=>((hcl h).sub (Nat.le_succ n) (Nat.le_refl h)).fr i hi',fun i f cs' hx=>?_,fun i e' hx=>?_⟩⟩
    ·rcases aN hx with ⟨rfl,hx'⟩ | ⟨_,hx'⟩
     ·cases hx'
      have c2:=(hcl h).hp _ _ _ hi
      refine ⟨by omega,aU.2 fun d hd'=>?_⟩
      rcases yF hd' with rfl | hd'
      ·exact a7 (by omega)
      ·exact aU.1 (cT c2.2 (Nat.le_succ n) (Nat.le_refl h)) d hd'
     ·exact ((hcl h).sub (Nat.le_succ n) (Nat.le_refl h)).hp i f cs' hx'
    ·rcases aN hx with ⟨rfl,_⟩ | ⟨_,hx'⟩
     ·omega
     ·exact ((hcl h).sub (Nat.le_succ n) (Nat.le_refl h)).tk i e' hx'
   ·exact wK (i:=0) hs rfl
   ·rw [bU] at hq
    rw [eT]
    by_cases hjq:j=q
    ·subst hjq
     rw [if_pos ⟨rfl,hq⟩,hcv]
     refine .pure ?_ ?_
     ·cases hrp with
      | slice a' _ c' _ _ _ b o val e1 e2 e3 e4 e5=>exact .slice a' m c' _ z g b o val e1 e2 e3 e4 e5
     ·intro z' m' hz
      simp only [Nat.beq_refl,cond_true,Option.some.injEq,Prod.mk.injEq] at hz
      obtain ⟨rfl,rfl⟩:=hz
      exact ⟨Nat.le_refl _,fun _=>by simp only [if_true]; exact htag⟩
    ·rw [if_neg (fun h=>hjq h.1)]
     exact (h3 q hq).keep kk (dB (hno id false cs hi) hq)
  ·exact hk.elim
 ·exact hk.elim
theorem aFT {s:St} {Q:AE→St→Prop} {k n:Nat} {l:List (Nat×Σ α:Type,α→Tm)} {x y:AC} (hnp:np≤n) (h:aev E (aEZ k l n x y) Q s) :
  ∃ N:St→Prop,aev E x (aDD N Q) s∧∀ {B:Nat} {w0:World} {ext:List Nat} {σ0:Og} {G:Gh} {s':St} {a:Act} {w:World},Rel F B np w0 ext σ0 G s' a w→(∀ h,Clean n h s')→N s'→∃ G' s2,aev E y Q s2∧Rel F B np w0 ext σ0 G' s2 a w∧∀ h,Clean (lU k l n) h s2:=by
 have le:n≤lU k l n:=vJ
 unfold aEZ at h
 split at h
 ·rename_i j c r'
  cases hb:Nat.beq j k with
  | true =>
   rw [hb] at h
   simp only [cond_true,aev] at h
   refine ⟨_,h,fun r hc hN=>?_⟩
   simp only [aDD] at hN
   obtain ⟨x,h1,h2,h3,_⟩:=oE r hN
   exact ⟨_,_,h1,h2,Clean.up (fun h=>h3 _ _ (hc h)) le⟩
  | false =>
   rw [hb] at h
   simp only [cond_false] at h
   cases hb2:Nat.beq j (100000+k) with
   | true =>
    rw [hb2] at h
    simp only [cond_true,aev] at h
    obtain ⟨I,h1,h2⟩:=h
    refine ⟨_,h1,fun r hc hN=>?_⟩
    obtain ⟨x,h3,h4,h5,_⟩:=oE r hN
    exact ⟨_,_,h2 x h3,h4,Clean.up (fun h=>h5 _ _ (hc h)) le⟩
   | false =>
    rw [hb2] at h
    simp only [cond_false] at h
    cases hb3:pU k j with
    | true =>
     rw [hb3] at h
     simp only [cond_true,aev] at h
     refine ⟨_,h,fun r hc hN=>?_⟩
     obtain ⟨G',s2,h1,h2,h3⟩:=aEK hnp r hc hN
     refine ⟨G',s2,h1,h2,?_⟩
     simp only [lU,hb3,Bool.true_or,cond_true]
     exact h3
    | false =>
    rw [hb3] at h
    simp only [cond_false] at h
    cases hb4:s8 k j with
    | true =>
     rw [hb4] at h
     simp only [cond_true,aev] at h
     refine ⟨_,h,fun r hc hN=>?_⟩
     obtain ⟨G',s2,h1,h2,h3⟩:=aE4 hnp r hc hN
     refine ⟨G',s2,h1,h2,?_⟩
     simp only [lU,hb3,hb4,Bool.or_true,cond_true]
     exact h3
    | false =>
    rw [hb4] at h
    simp only [cond_false] at h
    cases hb5:aF2 k j with
    | true =>
     rw [hb5] at h
     simp only [cond_true,aev] at h
     refine ⟨_,h,fun r hc hN=>?_⟩
     obtain ⟨G',s2,h1,h2,h3⟩:=aGU r hc hN
     exact ⟨G',s2,h1,h2,Clean.up h3 le⟩
    | false =>
     rw [hb5] at h
     exact ⟨_,h,fun r hc hN=>⟨_,_,hN,r,Clean.up hc le⟩⟩
 ·exact ⟨_,h,fun r hc hN=>⟨_,_,hN,r,hc⟩⟩
theorem hG (hE:EnvOk P F E) (hft:∀ f j,ag ft f=some j→F j=f) (hmix:P.follows .mixedOrders=true):∀ (c:Code) (ts ts':TS) (x:AC),trC P ft np c ts=some (x,ts')→ts.at_≤ts'.at_∧aCJ P F E np c x ts.at_ ts'.at_
 | .skip,ts,ts',x,h=>by
  simp only [trC,Option.some.injEq,Prod.mk.injEq] at h
  obtain ⟨rfl,rfl⟩:=h
  exact ⟨Nat.le_refl _,fun _ r hcl hk hn=>wp_skip (hn .normal _ _ _ _ hk r hcl)⟩
 | .exit id,ts,ts',x,h=>by
  simp only [trC,Option.some.injEq,Prod.mk.injEq] at h
  obtain ⟨rfl,rfl⟩:=h
  exact ⟨Nat.le_refl _,fun _ r hcl hk hn=>wp_exit (hn (.exit id) _ _ _ _ hk r hcl)⟩
 | .ret,ts,ts',x,h=>by
  simp only [trC,Option.some.injEq,Prod.mk.injEq] at h
  obtain ⟨rfl,rfl⟩:=h
  exact ⟨Nat.le_refl _,fun _ r hcl hk hn=>wp_ret (hn .ret _ _ _ _ hk r hcl)⟩
 | .region id ops draw,ts,ts',x,h=>by
  simp only [trC] at h
  split at h
  ·rename_i as n hA
   cases hb:(draw&&!sI ops as) with
   | true =>
    rw [hb] at h
    simp only [cond_true] at h
    cases ho:jP ops as with
    | false=>rw [ho] at h; cases h
    | true =>
     rw [ho] at h
     cases h
     have hdr:draw=true:=by cases draw <;> simp_all
     subst hdr
     exact ⟨(iN hA).2.1,aEL hE hft hmix hA ho⟩
   | false =>
    rw [hb] at h
    cases h
    refine ⟨(iN hA).2.1,aEB hE hft hmix hA fun hd=>?_⟩
    rw [hd] at hb
    simpa using hb
  ·cases h
 | .seq c1 c2,ts,ts',x,h=>by
  simp only [trC] at h
  split at h
  ·rename_i x1 ts1 h1
   split at h
   ·rename_i x2 ts2 h2
    cases h
    obtain ⟨l1,k1⟩:=hG hE hft hmix c1 _ ts1 x1 h1
    obtain ⟨l2,k2⟩:=hG hE hft hmix c2 _ ts' x2 h2
    simp only at l1 k1 l2 k2
    have l3:ts1.at_≤lU ts.seqs ts1.cuts ts1.at_:=vJ
    refine ⟨Nat.le_trans l1 (Nat.le_trans l3 l2),fun {B w0 ext σ0 G s a w Q Qm} hnp r hcl hk hn=>?_⟩
    obtain ⟨N,hk,hN⟩:=aFT (F:=F) (np:=np) (n:=ts1.at_) (Nat.le_trans hnp l1) hk
    refine wp_seq (k1 hnp r hcl hk fun e s' a' w' G' hq r' hc=>?_)
    cases e with
    | normal =>
     obtain ⟨G2,s2,hq2,r2,hc2⟩:=hN r' hc hq
     exact k2 (Nat.le_trans hnp (Nat.le_trans l1 l3)) r2 hc2 hq2 hn
    | exit id=>exact hn (.exit id) s' a' w' G' hq r' (Clean.up hc (Nat.le_trans l3 l2))
    | ret=>exact hn .ret s' a' w' G' hq r' (Clean.up hc (Nat.le_trans l3 l2))
   ·cases h
  ·cases h
 | .cond c c1 c2,ts,ts',x,h=>by
  simp only [trC] at h
  split at h
  ·rename_i ax x1 ts1 hx h1
   split at h
   ·rename_i x2 ts2 h2
    cases h
    obtain ⟨l1,k1⟩:=hG hE hft hmix c1 ts ts1 x1 h1
    obtain ⟨l2,k2⟩:=hG hE hft hmix c2 ts1 ts' x2 h2
    refine ⟨Nat.le_trans l1 l2,fun {B w0 ext σ0 G s a w Q Qm} hnp r hcl hk hn=>?_⟩
    simp only [aev] at hk
    have hc:=a9 hft r hx
    cases hv:ax.ev s.fr with
    | bool b =>
     rw [hv] at hk hc
     have hcv:=hc.bool_inv
     cases b with
     | true=>exact wp_cond_true hcv (k1 hnp r hcl hk fun e s' a' w' G' hq r' hc'=>hn e s' a' w' G' hq r' (Clean.up hc' l2))
     | false=>exact wp_cond_false hcv (k2 (Nat.le_trans hnp l1) r (Clean.up hcl l1) hk hn)
    | ubool =>
     rw [hv] at hk hc
     obtain ⟨b,hcv⟩:=hc.ubool_inv
     cases b with
     | true=>exact wp_cond_true hcv (k1 hnp r hcl hk.1 fun e s' a' w' G' hq r' hc'=>hn e s' a' w' G' hq r' (Clean.up hc' l2))
     | false=>exact wp_cond_false hcv (k2 (Nat.le_trans hnp l1) r (Clean.up hcl l1) hk.2 hn)
    | _=>rw [hv] at hk; exact hk.elim
   ·cases h
  ·cases h
 | .block id c,ts,ts',x,h=>by
  simp only [trC] at h
  split at h
  ·rename_i x1 ts1 h1
   cases h
   obtain ⟨l1,k1⟩:=hG hE hft hmix c ts ts' x1 h1
   refine ⟨l1,fun {B w0 ext σ0 G s a w Q Qm} hnp r hcl hk hn=>wp_block (k1 hnp r hcl hk fun e s' a' w' G' hq r' hc=>?_)⟩
   cases e with
   | normal=>exact hn .normal s' a' w' G' hq r' hc
   | exit j =>
    simp only [aGD,Exit.inBlock]
    simp only [aGR] at hq
    cases hb:Nat.beq j id with
    | true =>
     rw [hb] at hq
     rw [if_pos (Nat.eq_of_beq_eq_true hb)]
     exact hn .normal s' a' w' G' hq r' hc
    | false =>
     rw [hb] at hq
     rw [if_neg (fun he=>by rw [he,Nat.beq_refl] at hb; cases hb)]
     exact hn (.exit j) s' a' w' G' hq r' hc
   | ret=>exact hn .ret s' a' w' G' hq r' hc
  ·cases h
 | .loop c,ts,ts',x,h=>by
  simp only [trC] at h
  split at h
  ·rename_i u ks kh kt rr hkl
   split at h
   ·rename_i x1 ts1 h1
    cases h
    obtain ⟨l1,k1⟩:=hG hE hft hmix c _ ts' x1 h1
    simp only at l1 k1
    refine ⟨l1,fun {B w0 ext σ0 G s a w Q Qm} hnp r hcl hk hn=>?_⟩
    simp only [aev] at hk
    obtain ⟨s1,h2,r1,c1⟩:=yV r (Clean.up hcl l1) hk
    refine wO (fun n a w=>∃ G s,Rel F B np w0 ext σ0 G s a w∧(∀ h,Clean ts.at_ h s)∧vM (fP ks kh kt ts.at_ ts'.at_) (aev E x1) Q n s) ⟨G,s1,r1,c1,h2⟩ fun n a w hI=>?_
    obtain ⟨G,s,r,hcl,hk⟩:=hI
    cases n with
    | zero=>exact hk.elim
    | succ n =>
     refine k1 hnp r hcl hk fun e s' a' w' G' hq r' hc=>?_
     cases e with
     | normal =>
      obtain ⟨s2,h3,r2,c2⟩:=yV r' hc hq
      exact ⟨n,Nat.lt_succ_self n,G',s2,r2,c2,h3⟩
     | exit j=>exact hn (.exit j) s' a' w' G' hq r' hc
     | ret=>exact hn .ret s' a' w' G' hq r' hc
   ·cases h
  ·rename_i α S rr hkl
   split at h
   ·rename_i x1 ts1 h1
    cases h
    obtain ⟨l1,k1⟩:=hG hE hft hmix c _ ts' x1 h1
    simp only at l1 k1
    refine ⟨l1,fun {B w0 ext σ0 G s a w Q Qm} hnp r hcl hk hn=>?_⟩
    simp only [aev] at hk
    obtain ⟨I,μ,hs,hround⟩:=hk
    obtain ⟨x,h2,r1,c1⟩:=rC r (Clean.up hcl l1) hs
    refine wO (fun n a w=>∃ G y,Rel F B np w0 ext σ0 G (uL (S y)) a w∧(∀ h,Clean ts.at_ h (uL (S y)))∧I y∧μ y=n) ⟨G,x,r1,c1,h2,rfl⟩ fun n a w hI=>?_
    obtain ⟨G,y,r,hcl,hy,rfl⟩:=hI
    refine k1 hnp r hcl (hround y hy) fun e s' a' w' G' hq r' hc=>?_
    cases e with
    | normal =>
     obtain ⟨z,⟨h3,h4⟩,r2,c2⟩:=rC r' hc hq
     exact ⟨μ z,h4,G',z,r2,c2,h3,rfl⟩
    | exit j=>exact hn (.exit j) s' a' w' G' hq r' hc
    | ret=>exact hn .ret s' a' w' G' hq r' hc
   ·cases h
  ·cases h
 | .rangeFunc ..,ts,ts',x,h=>by
  simp only [trC,Option.some.injEq,Prod.mk.injEq] at h
  obtain ⟨rfl,rfl⟩:=h
  exact ⟨Nat.le_refl _,fun _ _ _ hk _=>by simp only [aev] at hk⟩
 | .scope c,ts,ts',x,h=>by
  simp only [trC] at h
  obtain ⟨l1,k1⟩:=hG hE hft hmix c ts ts' x h
  refine ⟨l1,fun {B w0 ext σ0 G s a w Q Qm} hnp r hcl hk hn=>wp_scope_straight (k1 hnp r hcl hk fun e s' a' w' G' hq r' hc=>?_)⟩
  have:=hn e s' a' w' G' hq r' hc
  cases e <;> exact this
 | .label l,ts,ts',x,h=>by
  simp only [trC,Option.some.injEq,Prod.mk.injEq] at h
  obtain ⟨rfl,rfl⟩:=h
  exact ⟨Nat.le_refl _,fun _ r hcl hk hn=>wp_label (hn .normal _ _ _ _ hk r hcl)⟩
 | .goto ..,ts,ts',x,h=>by
  simp only [trC,Option.some.injEq,Prod.mk.injEq] at h
  obtain ⟨rfl,rfl⟩:=h
  exact ⟨Nat.le_refl _,fun _ _ _ hk _=>by simp only [aev] at hk⟩
 | .refuse ..,ts,ts',x,h=>by
  simp only [trC,Option.some.injEq,Prod.mk.injEq] at h
  obtain ⟨rfl,rfl⟩:=h
  exact ⟨Nat.le_refl _,fun _ _ _ hk _=>by simp only [aev] at hk⟩
end
section
variable {E:Env}
theorem qT {kill kh kt:List Nat} {lo hi:Nat} {s:St} {K K':St→Prop} (h:∀ s,K s→K' s) (hk:fP kill kh kt lo hi s K):fP kill kh kt lo hi s K':=by
 unfold fP at hk ⊢
 generalize (hU lo hi (yD lo hi (kills kill s.fr)) || iD lo hi (lG s.hp kh) || iH lo hi (jX s.tk kt))=b at hk ⊢
 cases b with
 | true=>exact hk.elim
 | false=>exact h _ hk
theorem q6 {kill kh kt:List Nat} {lo hi:Nat} {s:St} {K:St→Prop} (hk:fP kill kh kt lo hi s K):∃ s',K s':=by
 unfold fP at hk
 generalize (hU lo hi (yD lo hi (kills kill s.fr)) || iD lo hi (lG s.hp kh) || iH lo hi (jX s.tk kt))=b at hk
 cases b with
 | true=>exact hk.elim
 | false=>exact ⟨_,hk⟩
theorem aFD (hE:fB E) {o:AO} {s:St} {K:St→Prop} (h:gOp E o s K):∃ s',K s':=by
 rw [gE] at h
 obtain ⟨v,u,h⟩:=wG hE h
 exact ⟨_,h⟩
theorem nE (hE:fB E):∀ {l:List AO} {s:St} {K:St→Prop},kN E l s K→∃ s',K s'
 | [],s,_,h=>⟨s,h⟩
 | _::_,_,_,h=>let ⟨_,h1⟩:=aFD hE h; nE hE h1
theorem dT {b:Bool} {p p':Prop} (f:p→p') (h:Br b p False):Br b p' False:=by
 cases b with
 | true=>exact f h
 | false=>exact h.elim
theorem bN {d d':D} {k k':Prop} (f:k→k') (h:eA d d' k):eA d d' k':=by
 cases d' <;> cases d <;> simp only [eA] at h ⊢ <;> first | exact f h | exact h.elim | exact ⟨h.1,f h.2⟩ | exact dT (And.imp id f) h | exact dT (And.imp id (And.imp id f)) h | exact dT (And.imp id (And.imp id (And.imp id f))) h | exact dT f h
theorem i6:∀ {l l':List D} {k k':Prop},(k→k')→mM l l' k→mM l l' k'
 | [],[],_,_,f,h=>f h
 | _::_,_::_,_,_,f,h=>bN (i6 f) h
 | [],_::_,_,_,_,h=>h.elim
 | _::_,[],_,_,_,h=>h.elim
theorem aEA {d d':D} {k k':Prop} (f:k→k') (h:aFM d d' k):aFM d d' k':=by
 cases d' with
 | agg l' =>
  cases d with
  | agg l=>exact i6 f h
  | _=>exact h.elim
 | int a b=>exact (bN (d:=d) (d':=.int a b) f h:eA d (.int a b) k')
 | bool a=>exact (bN (d:=d) (d':=.bool a) f h:eA d (.bool a) k')
 | str a=>exact (bN (d:=d) (d':=.str a) f h:eA d (.str a) k')
 | tup a=>exact (bN (d:=d) (d':=.tup a) f h:eA d (.tup a) k')
 | slice a b c e=>exact (bN (d:=d) (d':=.slice a b c e) f h:eA d (.slice a b c e) k')
 | ptr a b=>exact (bN (d:=d) (d':=.ptr a b) f h:eA d (.ptr a b) k')
 | eptr a=>exact (bN (d:=d) (d':=.eptr a) f h:eA d (.eptr a) k')
 | nilp=>exact (bN (d:=d) (d':=.nilp) f h:eA d (.nilp) k')
 | ubool=>exact (bN (d:=d) (d':=.ubool) f h:eA d (.ubool) k')
 | fn a b=>exact (bN (d:=d) (d':=.fn a b) f h:eA d (.fn a b) k')
 | dead=>exact (bN (d:=d) (d':=.dead) f h:eA d (.dead) k')
 | mp a b c e=>exact (bN (d:=d) (d':=.mp a b c e) f h:eA d (.mp a b c e) k')
 | mref a=>exact (bN (d:=d) (d':=.mref a) f h:eA d (.mref a) k')
 | newp a=>exact (bN (d:=d) (d':=.newp a) f h:eA d (.newp a) k')
 | arr a b c e=>exact (bN (d:=d) (d':=.arr a b c e) f h:eA d (.arr a b c e) k')
 | msl a b c=>exact (bN (d:=d) (d':=.msl a b c) f h:eA d (.msl a b c) k')
 | rptr a b c e g=>exact (bN (d:=d) (d':=.rptr a b c e g) f h:eA d (.rptr a b c e g) k')
theorem fN:∀ {l l':List D} {k k':Prop},(k→k')→nV l l' k→nV l l' k'
 | [],[],_,_,f,h=>f h
 | _::_,_::_,_,_,f,h=>aEA (fN f) h
 | [],_::_,_,_,_,h=>h.elim
 | _::_,[],_,_,_,h=>h.elim
theorem iK:∀ {l l':List (List D)} {k k':Prop},(k→k')→q9 l l' k→q9 l l' k'
 | [],[],_,_,f,h=>f h
 | _::_,_::_,_,_,f,h=>i6 (iK f) h
 | [],_::_,_,_,_,h=>h.elim
 | _::_,[],_,_,_,h=>h.elim
theorem aAG {hp:Nat→Option (Bool×List D)}:∀ {l:List (Nat×Bool×List D)} {k k':Prop},(k→k')→hpK hp l k→hpK hp l k'
 | [],_,_,f,h=>f h
 | (i,b,cs)::l,_,_,f,h=>by
  simp only [hpK] at h ⊢
  split at h
  ·exact dT (i6 (aAG f)) h
  ·exact h.elim
theorem zC {tk:Nat→Option (Nat×Nat)}:∀ {l:List (Nat×Nat×Nat)} {k k':Prop},(k→k')→tkK tk l k→tkK tk l k'
 | [],_,_,f,h=>f h
 | (i,z,n)::l,_,_,f,h=>by
  simp only [tkK] at h ⊢
  split at h
  ·exact dT (And.imp id (zC f)) h
  ·exact h.elim
theorem aBB {α:Type} {S:α→Tm} {lo hi:Nat} {s:St} {k k':α→Prop} (f:∀ x,k x→k' x) (h:kB S lo hi s k):kB S lo hi s k':=by
 obtain ⟨x,h⟩:=h
 refine ⟨x,?_⟩
 generalize (hU lo hi (S x).fr || iD lo hi (S x).hp || iH lo hi (S x).tk)=b at h ⊢
 cases b with
 | true=>exact h
 | false=>exact fN (aAG (zC (f x))) h
theorem iX {α:Type} {S:α→Tm} {lo hi:Nat} {s:St} {k:α→Prop} (h:kB S lo hi s k):∃ x,k x:=by
 obtain ⟨x,h⟩:=h
 generalize (hU lo hi (S x).fr || iD lo hi (S x).hp || iH lo hi (S x).tk)=b at h
 cases b with
 | true=>exact h.elim
 | false=>exact ⟨x,(sS (tR (dE h).2).2).2⟩
theorem pN (hE:fB E) {s:St} {K K':St→Prop} (h:∀ s,K s→K' s):∀ {l:List (List AO)},o8 E l s K→o8 E l s K'
 | [],hk=>hk.elim
 | [_],hk=>nG hE h hk
 | _::_::_,hk=>⟨nG hE h hk.1,pN hE h hk.2⟩
theorem dK (hE:fB E):∀ (x:AC) {Q Q':AE→St→Prop} {s:St},(∀ e s,Q e s→Q' e s)→aev E x Q s→aev E x Q' s
 | .skip,_,_,_,h,hk=>h _ _ hk
 | .exit _,_,_,_,h,hk=>h _ _ hk
 | .ret,_,_,_,h,hk=>h _ _ hk
 | .region ops,_,_,_,h,hk=>nG hE (fun s hs=>h _ s hs) hk
 | .orders l,_,_,_,h,hk=>pN hE (fun s hs=>h _ s hs) hk
 | .seq a b,Q,Q',s,h,hk=>dK hE a (fun e s' hs=>by
   cases e with
   | normal=>exact dK hE b h hs
   | exit j=>exact h _ _ hs
   | ret=>exact h _ _ hs) hk
 | .cond c t e,Q,Q',s,h,hk=>by
  simp only [aev] at hk ⊢
  cases hv:c.ev s.fr with
  | bool b =>
   rw [hv] at hk
   cases b with
   | true=>exact dK hE t h hk
   | false=>exact dK hE e h hk
  | ubool =>
   rw [hv] at hk
   exact ⟨dK hE t h hk.1,dK hE e h hk.2⟩
  | _=>rw [hv] at hk; exact hk.elim
 | .block id c,Q,Q',s,h,hk=>dK hE c (fun e s' hs=>by
   cases e with
   | normal=>exact h _ _ hs
   | exit j =>
    simp only [aGR] at hs ⊢
    generalize Nat.beq j id=b at hs ⊢
    cases b with
    | true=>exact h _ _ hs
    | false=>exact h _ _ hs
   | ret=>exact h _ _ hs) hk
 | .loop n ks kh kt lo hi c,Q,Q',s,h,hk=>by
  have key:∀ n s,vM (fP ks kh kt lo hi) (aev E c) Q n s→vM (fP ks kh kt lo hi) (aev E c) Q' n s:=by
   intro n
   induction n with
   | zero=>exact fun s h=>h
   | succ n ih =>
    intro s hs
    refine dK hE c (fun e s' he=>?_) hs
    cases e with
    | normal=>exact qT ih he
    | exit j=>exact h _ _ he
    | ret=>exact h _ _ he
  simp only [aev] at hk ⊢
  exact qT (key n) hk
 | .loopT α S lo hi c,Q,Q',s,h,hk=>by
  simp only [aev] at hk ⊢
  obtain ⟨I,μ,h1,h2⟩:=hk
  refine ⟨I,μ,h1,fun y hy=>dK hE c (fun e s' he=>?_) (h2 y hy)⟩
  cases e with
  | normal=>exact he
  | exit j=>exact h _ _ he
  | ret=>exact h _ _ he
 | .thaw i t,Q,Q',s,h,hk=>by
  simp only [aev] at hk ⊢
  unfold zI at hk ⊢
  cases hs:aDN i t s with
  | none=>rw [hs] at hk; exact hk.elim
  | some s'=>rw [hs] at hk; exact h _ _ hk
 | .frz t,Q,Q',s,h,hk=>by
  simp only [aev] at hk ⊢
  unfold aFH at hk ⊢
  cases hs:aG6 t s with
  | none=>rw [hs] at hk; exact hk.elim
  | some ps=>rw [hs] at hk; exact ⟨hk.1,h _ _ hk.2⟩
 | .adopt i id j,Q,Q',s,h,hk=>by
  simp only [aev] at hk ⊢
  unfold uK at hk ⊢
  split
  ·rename_i cs hi
   rw [hi] at hk
   simp only at hk
   split
   ·rename_i z n g hd
    rw [hd] at hk
    exact dT (h _ _) hk
   ·rename_i hno
    split at hk
    ·rename_i z n g hd
     exact (hno z n g hd).elim
    ·exact hk
  ·rename_i hno
   split at hk
   ·rename_i cs hi
    exact (hno cs hi).elim
   ·exact hk
 | .joinT α S a b,Q,Q',s,h,hk=>by
  simp only [aev] at hk ⊢
  obtain ⟨I,h1,h2⟩:=hk
  refine ⟨I,dK hE a (fun e s' he=>?_) h1,fun y hy=>dK hE b h (h2 y hy)⟩
  cases e with
  | normal=>exact he
  | exit j=>exact h _ _ he
  | ret=>exact h _ _ he
 | .cut α S,Q,Q',s,h,hk=>by
  simp only [aev] at hk ⊢
  exact aBB (fun x hx=>h _ _ hx) hk
theorem eF (hE:fB E):∀ (x:AC) {Q:AE→St→Prop} {s:St},aev E x Q s→∃ e s',Q e s'
 | .skip,_,_,hk=>⟨_,_,hk⟩
 | .exit _,_,_,hk=>⟨_,_,hk⟩
 | .ret,_,_,hk=>⟨_,_,hk⟩
 | .region ops,_,_,hk=>let ⟨_,h⟩:=nE hE hk; ⟨_,_,h⟩
 | .orders [],_,_,hk=>hk.elim
 | .orders [l],_,_,hk=>let ⟨_,h⟩:=nE (l:=l) hE hk; ⟨_,_,h⟩
 | .orders (l::_::_),_,_,hk=>let ⟨_,h⟩:=nE (l:=l) hE hk.1; ⟨_,_,h⟩
 | .seq a b,Q,s,hk=>by
  obtain ⟨e,s',h⟩:=eF hE a hk
  cases e with
  | normal=>exact eF hE b h
  | exit j=>exact ⟨_,_,h⟩
  | ret=>exact ⟨_,_,h⟩
 | .cond c t e,Q,s,hk=>by
  simp only [aev] at hk
  cases hv:c.ev s.fr with
  | bool b =>
   rw [hv] at hk
   cases b with
   | true=>exact eF hE t hk
   | false=>exact eF hE e hk
  | ubool =>
   rw [hv] at hk
   exact eF hE t hk.1
  | _=>rw [hv] at hk; exact hk.elim
 | .block id c,Q,s,hk=>by
  obtain ⟨e,s',h⟩:=eF hE c hk
  cases e with
  | normal=>exact ⟨_,_,h⟩
  | exit j =>
   simp only [aGR] at h
   generalize Nat.beq j id=b at h
   cases b with
   | true=>exact ⟨_,_,h⟩
   | false=>exact ⟨_,_,h⟩
  | ret=>exact ⟨_,_,h⟩
 | .loop n ks kh kt lo hi c,Q,s,hk=>by
  have key:∀ n s,vM (fP ks kh kt lo hi) (aev E c) Q n s→∃ e s',Q e s':=by
   intro n
   induction n with
   | zero=>exact fun s h=>h.elim
   | succ n ih =>
    intro s hs
    obtain ⟨e,s',h⟩:=eF hE c hs
    cases e with
    | normal =>
     obtain ⟨s2,h2⟩:=q6 h
     exact ih s2 h2
    | exit j=>exact ⟨_,_,h⟩
    | ret=>exact ⟨_,_,h⟩
  simp only [aev] at hk
  obtain ⟨s2,h2⟩:=q6 hk
  exact key n s2 h2
 | .loopT α S lo hi c,Q,s,hk=>by
  simp only [aev] at hk
  obtain ⟨I,μ,h1,h2⟩:=hk
  obtain ⟨x,hx⟩:=iX h1
  have key:∀ n x,μ x=n→I x→∃ e s',Q e s':=by
   intro n
   induction n using Nat.strongRecOn with
   | _ n ih =>
    intro x hn hx
    obtain ⟨e,s',h⟩:=eF hE c (h2 x hx)
    cases e with
    | normal =>
     obtain ⟨z,h3,h4⟩:=iX h
     exact ih (μ z) (by omega) z rfl h3
    | exit j=>exact ⟨_,_,h⟩
    | ret=>exact ⟨_,_,h⟩
  exact key _ x rfl hx
 | .thaw i t,Q,s,hk=>by
  simp only [aev] at hk
  unfold zI at hk
  cases hs:aDN i t s with
  | none=>rw [hs] at hk; exact hk.elim
  | some s'=>rw [hs] at hk; exact ⟨_,_,hk⟩
 | .frz t,Q,s,hk=>by
  simp only [aev] at hk
  unfold aFH at hk
  cases hs:aG6 t s with
  | none=>rw [hs] at hk; exact hk.elim
  | some ps=>rw [hs] at hk; exact ⟨_,_,hk.2⟩
 | .adopt i id j,Q,s,hk=>by
  simp only [aev] at hk
  unfold uK at hk
  split at hk
  ·split at hk
   ·exact ⟨_,_,(bZ hk).2⟩
   ·exact hk.elim
  ·exact hk.elim
 | .joinT α S a b,Q,s,hk=>by
  simp only [aev] at hk
  obtain ⟨I,h1,h2⟩:=hk
  obtain ⟨e,s',h⟩:=eF hE a h1
  cases e with
  | normal =>
   obtain ⟨x,hx⟩:=iX h
   exact eF hE b (h2 x hx)
  | exit j=>exact ⟨_,_,h⟩
  | ret=>exact ⟨_,_,h⟩
 | .cut α S,Q,s,hk=>by
  simp only [aev] at hk
  obtain ⟨x,hx⟩:=iX hk
  exact ⟨_,_,hx⟩
theorem j9 {tk:Nat→Option (Nat×Nat)} {v:D} {k:D→(Nat→Option (Nat×Nat))→Prop} (h:fS tk v k):∃ d tk',k d tk'∧∀ k',k' d tk'→fS tk v k':=by
 cases v with
 | slice t z n g =>
  cases t with
  | own i =>
   cases hi:tk i with
   | none =>
    have e:∀ k',fS tk (.slice (.own i) z n g) k'=k' (.slice .ro z n g) tk:=fun k'=>by simp only [fS,hi]
    rw [e] at h
    exact ⟨_,_,h,fun k' h'=>by rw [e]; exact h'⟩
   | some p =>
    obtain ⟨z',n'⟩:=p
    cases hb:Nat.beq z z' with
    | false =>
     simp only [fS,hi,hb,cond_false] at h
    | true =>
     have e:∀ k',fS tk (.slice (.own i) z n g) k'=(n'=n∧k' (.slice (.own 0) z n g) (fun j=>bif Nat.beq j i then none else tk j)):=fun k'=>by simp only [fS,hi,hb,cond_true]
     rw [e] at h
     exact ⟨_,_,h.2,fun k' h'=>by rw [e]; exact ⟨h.1,h'⟩⟩
  | ro=>exact ⟨_,_,h,fun k' h'=>h'⟩
  | full=>exact ⟨_,_,h,fun k' h'=>h'⟩
 | _=>exact ⟨_,_,h,fun k' h'=>h'⟩
end
section
variable {P:Program} {F:Nat→FuncId} {B np:Nat} {w0 w w':World} {ext:List Nat} {σ0:Og} {G G':Gh} {hp:Nat→Option (Bool×List D)} {tk0 tk tk':Nat→Option (Nat×Nat)}
theorem aGL (m:Mem F B np w0 ext σ0 G hp tk0 w) {t:TypeId} {g:Bool} {n:Nat} (hg:bJ P t=some g) (hn:bV P t=some n) (hgn:(g || n==1)=true) {id off:Nat} {f:Bool} {cs:List D} (hi:hp id=some (f,cs)) (hs:(f || aG cs)=true) {v:D} {u:Upd}
  (h:(bS g n (cs.drop off)).holds v u):∃ x,(loadVar t ⟨G.β id,off,none⟩).run P w=.ok x w∧Rd F G tk0 x v:=by
 obtain ⟨h1,rfl,rfl⟩:=eG h
 obtain ⟨val,h2⟩:=m.var_cell hi hs
 rw [List.length_drop] at h1
 exact rZ (F:=F) (G:=G) (tk:=tk0) (w:=w) hg hn hgn (l:=cs.drop off) (by rw [List.length_drop]; exact h1) (b:=G.β id) (o:=off) (fun j=>val (off+j)) (fun j hj=>(h2 (off+j) (by omega)).1)
  (fun j hj=>by rw [gK]; exact (h2 (off+j) (by omega)).2)
theorem aCP (m:Mem F B np w0 ext σ0 G hp tk0 w) (hsub:∀ i e,tk i=some e→tk0 i=some e) {x:Value} {v:D} (hx:Rd F G tk0 x v) {k:D→(Nat→Option (Nat×Nat))→Prop} (h:fS tk v k) (hB:∀ i e b,tk0 i=some e→bO G hp tk0 b (.inr i)→B≤b) :
  ∃ d tk',k d tk'∧(∀ i e,tk' i=some e→tk i=some e)∧rL G.σ w B x d∧∀ b,cZ x d b→∃ i,tk' i=none∧(∃ e,tk i=some e)∧bO G hp tk0 b (.inr i):=by
 have plain:∀ {d:D},Rp G.σ x d.pure1→(∀ q z n g,d≠.slice (.own q) z n g)→(∀ c,d≠.agg c)→(∀ l,d≠.newp l)→(∀ f z n g,d≠.arr f z n g)→k d tk→∃ d tk',k d tk'∧(∀ i e,tk' i=some e→tk i=some e)∧rL G.σ w B x d∧∀ b,cZ x d b→∃ i,tk' i=none∧(∃ e,tk i=some e)∧bO G hp tk0 b (.inr i):=by
  intro d hr hno hna hnn har hk
  refine ⟨d,tk,hk,fun i e h=>h,?_,fun b hb=>?_⟩
  ·cases d with
   | slice t z n g=>cases t with
    | own q=>exact absurd rfl (hno q z n g)
    | _=>exact hr
   | agg c=>exact absurd rfl (hna c)
   | newp l=>exact absurd rfl (hnn l)
   | arr f z n g=>exact absurd rfl (har f z n g)
   | _=>exact hr
  ·obtain ⟨q,z,n,g,c,e1,_⟩:=hb
   exact absurd e1 (hno q z n g)
 have cellPure:(∀ c,v≠.agg c)→Rp G.σ x v.pure1:=by
  intro hna
  cases hx with
  | any hx=>cases hx with
   | cell hc=>exact hc.pure1
   | agg cs l _ _=>exact absurd rfl (hna l)
  | tup vs l _ _=>exact .dead _
  | mref id=>exact .dead _
  | msl _ _ _ _ _ _ _ _=>exact .dead _
  | rptr _ _ _ _ _ _ _ _ _=>exact .dead _
 cases v with
 | slice t z n g =>
  have hro:Rp G.σ x (.slice .ro z n g):=cellPure (fun c=>by simp)
  cases t with
  | own i =>
   cases hi:tk i with
   | none =>
    simp only [fS,hi] at h
    exact plain (d:=.slice .ro z n g) hro (fun _ _ _ _=>by simp) (fun _=>by simp) (fun _=>by simp) (fun _ _ _ _=>by simp) h
   | some p =>
    obtain ⟨z',n'⟩:=p
    simp only [fS,hi] at h
    cases hb:Nat.beq z z' with
    | false=>rw [hb] at h; exact h.elim
    | true =>
     rw [hb] at h
     have:=Nat.eq_of_beq_eq_true hb
     subst this
     obtain ⟨rfl,h⟩:=h
     have hi0:=hsub _ _ hi
     have htag:=(hx.slice_inv.2 z n' hi0).2 rfl
     obtain ⟨a,c,h1,h2,h3⟩:=m.toks i z n' hi0
     rw [h1] at htag
     subst htag
     refine ⟨_,_,h,fun j e hj=>?_,⟨hro,a,c,rfl,h2,fun hn=>?_⟩,fun b hb=>?_⟩
     ·cases hji:Nat.beq j i with
      | true=>rw [hji] at hj; cases hj
      | false=>rw [hji] at hj; exact hj
     ·obtain ⟨b,cur,e,e1,e2,e3,e4⟩:=h3 hn
      exact ⟨b,cur,e,e1,e2,e3,e4,hB i _ b hi0 ⟨z,n',c,hi0,by rw [h1,e1],hn⟩⟩
     ·obtain ⟨q,z2,n2,g2,c2,e1,e2,e3⟩:=hb
      cases e2
      exact ⟨i,by simp [Nat.beq_refl],⟨_,hi⟩,z,n',c,hi0,h1,e3⟩
  | ro=>exact plain (d:=.slice .ro z n g) hro (fun _ _ _ _=>by simp) (fun _=>by simp) (fun _=>by simp) (fun _ _ _ _=>by simp) h
  | full=>exact plain (d:=.slice .ro z n g) hro (fun _ _ _ _=>by simp) (fun _=>by simp) (fun _=>by simp) (fun _ _ _ _=>by simp) h
 | agg l =>
  obtain ⟨cs,rfl,h1,h2⟩:=hx.agg_inv
  refine ⟨.agg (aJ l),tk,h,fun i e h=>h,⟨cs,rfl,by rw [aI]; exact h1,fun j hj=>?_⟩,fun b hb=>?_⟩
  ·rw [aI] at hj
   rw [aX,bH]
   exact (h2 j hj).pure1
  ·obtain ⟨q,z,n,g,c,e1,_⟩:=hb
   cases e1
 | tup l=>exact plain (d:=.dead) (.dead _) (fun _ _ _ _=>by simp) (fun _=>by simp) (fun _=>by simp) (fun _ _ _ _=>by simp) h
 | ubool=>exact plain (d:=.dead) (.dead _) (fun _ _ _ _=>by simp) (fun _=>by simp) (fun _=>by simp) (fun _ _ _ _=>by simp) h
 | ptr i o=>exact plain (d:=.dead) (.dead _) (fun _ _ _ _=>by simp) (fun _=>by simp) (fun _=>by simp) (fun _ _ _ _=>by simp) h
 | eptr l=>exact plain (d:=.dead) (.dead _) (fun _ _ _ _=>by simp) (fun _=>by simp) (fun _=>by simp) (fun _ _ _ _=>by simp) h
 | fn f l=>exact plain (d:=.dead) (.dead _) (fun _ _ _ _=>by simp) (fun _=>by simp) (fun _=>by simp) (fun _ _ _ _=>by simp) h
 | dead=>exact plain (d:=.dead) (.dead _) (fun _ _ _ _=>by simp) (fun _=>by simp) (fun _=>by simp) (fun _ _ _ _=>by simp) h
 | mp va n ks vs=>exact plain (d:=.dead) (.dead _) (fun _ _ _ _=>by simp) (fun _=>by simp) (fun _=>by simp) (fun _ _ _ _=>by simp) h
 | mref i=>exact plain (d:=.dead) (.dead _) (fun _ _ _ _=>by simp) (fun _=>by simp) (fun _=>by simp) (fun _ _ _ _=>by simp) h
 | newp l=>exact plain (d:=.dead) (.dead _) (fun _ _ _ _=>by simp) (fun _=>by simp) (fun _=>by simp) (fun _ _ _ _=>by simp) h
 | arr w z n g=>exact plain (d:=.dead) (.dead _) (fun _ _ _ _=>by simp) (fun _=>by simp) (fun _=>by simp) (fun _ _ _ _=>by simp) h
 | msl i z n=>exact plain (d:=.dead) (.dead _) (fun _ _ _ _=>by simp) (fun _=>by simp) (fun _=>by simp) (fun _ _ _ _=>by simp) h
 | rptr i z n e o=>exact plain (d:=.dead) (.dead _) (fun _ _ _ _=>by simp) (fun _=>by simp) (fun _=>by simp) (fun _ _ _ _=>by simp) h
 | int kk n=>exact plain (d:=.int kk n) (cellPure fun _=>by simp) (fun _ _ _ _=>by simp) (fun _=>by simp) (fun _=>by simp) (fun _ _ _ _=>by simp) h
 | bool b=>exact plain (d:=.bool b) (cellPure fun _=>by simp) (fun _ _ _ _=>by simp) (fun _=>by simp) (fun _=>by simp) (fun _ _ _ _=>by simp) h
 | str b=>exact plain (d:=.str b) (cellPure fun _=>by simp) (fun _ _ _ _=>by simp) (fun _=>by simp) (fun _=>by simp) (fun _ _ _ _=>by simp) h
 | nilp=>exact plain (d:=.nilp) (cellPure fun _=>by simp) (fun _ _ _ _=>by simp) (fun _=>by simp) (fun _=>by simp) (fun _ _ _ _=>by simp) h
def uC (tmps:Array Value) (r:ResultVar):Sem Value :=
 match r with
 | .tmp t=>pure (tmps.getD t undef)
 | .cell a t=>do loadVar t (← asAddr (tmps.getD a undef))
theorem s7 (m:Mem F B np w0 ext σ0 G hp tk0 w) {fr:List D} {tmps:Array Value} (slots:∀ i,i < fr.length→Rd F G tk0 (tmps.getD i undef) (nth fr i .dead)) (hB:∀ i e b,tk0 i=some e→bO G hp tk0 b (.inr i)→B≤b) :
  ∀ (ms:List ResultVar) (rs:List RV) (tk:Nat→Option (Nat×Nat)) (k:List D→Prop),p5 P ms=some rs→(∀ i e,tk i=some e→tk0 i=some e)→qM fr hp rs tk k →
  ∃ vals ds,(ms.mapM (uC tmps)).run P w=.ok vals w∧k ds∧vals.length=ds.length∧(∀ j,j < ds.length→rL G.σ w B (vals.getD j undef) (nth ds j .dead)) ∧
   (∀ j b,j < ds.length→cZ (vals.getD j undef) (nth ds j .dead) b→∃ i,(∃ e,tk i=some e)∧bO G hp tk0 b (.inr i)) ∧
   ∀ i j b,i < ds.length→j < ds.length→cZ (vals.getD i undef) (nth ds i .dead) b→cZ (vals.getD j undef) (nth ds j .dead) b→i=j
 | [],rs,tk,k,h,_,hk=>by
  cases h
  exact ⟨[],[],by simp,hk,rfl,fun j hj=>by simp at hj,fun j b hj=>by simp at hj,fun i j b hi=>by simp at hi⟩
 | r::ms,rs,tk,k,h,hsub,hk=>by
  simp only [p5] at h
  cases h1:aCQ P r with
  | none=>simp [h1] at h
  | some rv =>
   cases h2:p5 P ms with
   | none=>simp [h1,h2] at h
   | some rs' =>
    simp only [h1,h2,Option.some.injEq] at h
    subst h
    obtain ⟨x,v,hx,hv,hk⟩:∃ x v,(uC tmps r).run P w=.ok x w∧Rd F G tk0 x v∧fS tk v (fun v tk=>qM fr hp rs' tk fun vs=>k (v::vs)):=by
     cases r with
     | tmp t =>
      simp only [aCQ,Option.some.injEq] at h1
      subst h1
      refine ⟨tmps.getD t undef,nth fr t .dead,by simp [uC],?_,hk⟩
      by_cases ht:t < fr.length
      ·exact slots t ht
      ·rw [gO fr _ (Nat.le_of_not_lt ht)]
       exact Rd.dead _
     | cell a t =>
      simp only [aCQ] at h1
      cases hg:bJ P t with
      | none=>simp [hg] at h1
      | some g =>
       cases hn:bV P t with
       | none=>simp [hg,hn] at h1
       | some n =>
        simp only [hg,hn] at h1
        split at h1
        ·rename_i hgn
         cases h1
         simp only [qM] at hk
         cases hd:nth fr a .dead with
         | ptr id off =>
          rw [hd] at hk
          simp only at hk
          cases hi:hp id with
          | none=>rw [hi] at hk; exact hk.elim
          | some e =>
           obtain ⟨f,cs⟩:=e
           rw [hi] at hk
           obtain ⟨hs,hk⟩:=bZ hk
           obtain ⟨v,u,h3,h4⟩:=cK hk
           have ha:a < fr.length:=by
            rcases Nat.lt_or_ge a fr.length with h5 | h5
            ·exact h5
            ·rw [gO fr _ h5] at hd; cases hd
           have hp':=slots a ha
           rw [hd] at hp'
           have hpv:=hp'.ptr_inv
           obtain ⟨x,h5,h6⟩:=aGL (P:=P) m hg hn hgn hi hs h3
           refine ⟨x,v,?_,h6,h4⟩
           simp only [uC,Sem.run_bind,hpv,asAddr,Sem.run_pure,Result.andThen_ok,h5]
         | _=>rw [hd] at hk; exact hk.elim
        ·cases h1
    obtain ⟨d,tk',hk,hsub',hres,hown⟩:=aCP m hsub hv hk hB
    obtain ⟨vals,ds,e1,e2,e3,e4,e5,e6⟩:=s7 m slots hB ms rs' tk' _ h2 (fun i e h=>hsub i e (hsub' i e h)) hk
    refine ⟨x::vals,d::ds,by simp [List.mapM_cons,hx,e1],e2,by simp [e3],fun j hj=>?_,fun j b hj hb=>?_,fun i j b hi hj hb hb'=>?_⟩
    ·cases j with
     | zero=>exact hres
     | succ j=>exact e4 j (by simpa using hj)
    ·cases j with
     | zero =>
      obtain ⟨i,_,h8,h9⟩:=hown b hb
      exact ⟨i,h8,h9⟩
     | succ j =>
      obtain ⟨i,⟨e,h8⟩,h9⟩:=e5 j b (by simpa using hj) hb
      exact ⟨i,⟨e,hsub' i e h8⟩,h9⟩
    ·have cross:∀ q,q < ds.length→cZ x d b→cZ (vals.getD q undef) (nth ds q .dead) b→False:=by
      intro q hq h1 h2
      obtain ⟨i1,h8,_,h9⟩:=hown b h1
      obtain ⟨i2,⟨e,h10⟩,h11⟩:=e5 q b hq h2
      have:=m.own1 b _ _ h9 h11
      simp only [Sum.inr.injEq] at this
      rw [this,h10] at h8
      cases h8
     cases i with
     | zero =>
      cases j with
      | zero=>rfl
      | succ j=>exact (cross j (by simpa using hj) hb hb').elim
     | succ i =>
      cases j with
      | zero=>exact (cross i (by simpa using hi) hb' hb).elim
      | succ j=>rw [e6 i j b (by simpa using hi) (by simpa using hj) hb hb']
theorem aCN {s:St} (m:Mem F B np w0 ext σ0 G s.hp s.tk w) {tmps:Array Value} (slots:∀ i,i < s.fr.length→Rd F G s.tk (tmps.getD i undef) (nth s.fr i .dead)) (hB:∀ i e b,s.tk i=some e→bO G s.hp s.tk b (.inr i)→B≤b)
  {ms:List ResultVar} {rs:List RV} {ps:List Nat} (hps:∀ i,i < ext.length→i∈ps) {k:List D→Prop} (h:p5 P ms=some rs) (hk:mD rs ps s k) :
  ∃ vals ds,(ms.mapM (uC tmps)).run P w=.ok vals w∧k ds∧vals.length=ds.length∧(∀ j,j < ds.length→rL G.σ w B (vals.getD j undef) (nth ds j .dead)) ∧
   ∀ i j b,i < ds.length→j < ds.length→cZ (vals.getD i undef) (nth ds i .dead) b→cZ (vals.getD j undef) (nth ds j .dead) b→i=j:=by
 have old:qM s.fr s.hp rs s.tk k→∃ vals ds,(ms.mapM (uC tmps)).run P w=.ok vals w∧k ds∧vals.length=ds.length∧(∀ j,j < ds.length→rL G.σ w B (vals.getD j undef) (nth ds j .dead)) ∧
   ∀ i j b,i < ds.length→j < ds.length→cZ (vals.getD i undef) (nth ds i .dead) b→cZ (vals.getD j undef) (nth ds j .dead) b→i=j:=fun hk=>by
  obtain ⟨vals,ds,e1,e2,e3,e4,_,e6⟩:=s7 m slots hB ms rs s.tk k h (fun _ _ h=>h) hk
  exact ⟨vals,ds,e1,e2,e3,e4,e6⟩
 unfold mD at hk
 split at hk
 ·rename_i t
  have hms:ms=[.tmp t]:=by
   cases ms with
   | nil=>cases h
   | cons r ms =>
    simp only [p5] at h
    cases h1:aCQ P r with
    | none=>simp [h1] at h
    | some rv =>
     cases h2:p5 P ms with
     | none=>simp [h1,h2] at h
     | some rs' =>
      simp only [h1,h2,Option.some.injEq,List.cons.injEq] at h
      obtain ⟨rfl,rfl⟩:=h
      have e1:r=.tmp t:=by
       cases r with
       | tmp t'=>simp only [aCQ,Option.some.injEq,RV.tmp.injEq] at h1; rw [h1]
       | cell a t' =>
        simp only [aCQ] at h1
        split at h1
        ·split at h1 <;> cases h1
        ·cases h1
      have e2:ms=[]:=by
       cases ms with
       | nil=>rfl
       | cons r' ms' =>
        simp only [p5] at h2
        split at h2 <;> cases h2
      rw [e1,e2]
  split at hk
  ·rename_i id hd
   split at hk
   ·rename_i cs hi
    obtain ⟨hb,hk⟩:=bZ hk
    rw [Bool.and_eq_true] at hb
    obtain ⟨hs,hn⟩:=hb
    have ht:t < s.fr.length:=by
     rcases Nat.lt_or_ge t s.fr.length with h5 | h5
     ·exact h5
     ·rw [gO s.fr _ h5] at hd; cases hd
    have hv:=slots t ht
    rw [hd] at hv
    have hv:=hv.ptr_inv
    subst hms
    obtain ⟨o,h4,hh,hσ⟩:=m.vars id cs hi (bP hs)
    obtain ⟨c,e,rfl,h5,h6⟩:=hh.cells hs
    have hBb:B≤G.β id:=by
     rcases m.own2 (G.β id) (.inl id) ⟨cs,hi,.inl ⟨bP hs,rfl⟩⟩ with h7 | ⟨_,id',h7,h8⟩
     ·exact h7
     ·simp only [Sum.inl.injEq] at h7
      subst h7
      have:=hps _ h8.2
      have hcon:ps.any (Nat.beq id)=true:=List.any_eq_true.2 ⟨id,this,Nat.beq_refl id⟩
      rw [hcon] at hn
      cases hn
    refine ⟨[tmps.getD t undef],_,by simp [uC],hk,rfl,fun j hj=>?_,fun i j b hi hj _ _=>by simp at hi hj; omega⟩
    have:j=0:=by simpa using hj
    subst this
    refine ⟨G.β id,c,e,by simpa using hv,hBb,h4,by rw [aI]; exact h5,fun q hq=>?_,hσ⟩
    rw [aI] at hq
    rw [aX,bH]
    exact (h6 q hq).pure1
   ·exact hk.elim
  ·rename_i id z n hd
   split at hk
   ·rename_i z' n' g hi
    obtain ⟨hb,hn',hk2⟩:=bZ hk
    rw [Bool.and_eq_true] at hb
    obtain ⟨hz,hn⟩:=hb
    have:=Nat.eq_of_beq_eq_true hz
    subst this
    subst hn'
    have ht:t < s.fr.length:=by
     rcases Nat.lt_or_ge t s.fr.length with h5 | h5
     ·exact h5
     ·rw [gO s.fr _ h5] at hd; cases hd
    have hv:=slots t ht
    rw [hd] at hv
    obtain ⟨a,c,h1,h2,h3,h4⟩:=hv.msl_inv
    subst hms
    obtain ⟨a',c',hdr,hrow⟩:=m.rows id _ _ _ _ hi
    have e1:=hdr.at_
    rw [h2] at e1
    cases e1
    refine ⟨[tmps.getD t undef],_,by simp [uC],hk2,rfl,fun j hj=>?_,fun i j b hi hj _ _=>by simp at hi hj; omega⟩
    have:j=0:=by simpa using hj
    subst this
    refine ⟨a,c,by simpa using h1,h3,fun hc=>?_⟩
    obtain ⟨b,rfl⟩:=hdr.blk hc
    obtain ⟨hσ,o,h5,h6⟩:=hrow b rfl hc
    have hBb:B≤b:=by
     rcases m.own2 b (.inl id) ⟨_,hi,.inr ⟨_,_,_,_,c,rfl,h2,hc⟩⟩ with h7 | ⟨_,id',h7,h8⟩
     ·exact h7
     ·simp only [Sum.inl.injEq] at h7
      subst h7
      have:=hps _ h8.2
      have hcon:ps.any (Nat.beq id)=true:=List.any_eq_true.2 ⟨id,this,Nat.beq_refl id⟩
      rw [hcon] at hn
      cases hn
    exact ⟨b,rfl,hBb,hσ,o,h5,h6⟩
   ·exact hk.elim
  ·exact old hk
 ·exact old hk
end
theorem DEq.res {d d':D} (e:DEq d d') {σ:Sg} {w:World} {B:Nat} {v:Value}:(rL σ w B v d→rL σ w B v d')∧∀ b,cZ v d' b→cZ v d b:=by
 cases e with
 | refl=>exact ⟨fun h=>h,fun b h=>h⟩
 | dead=>exact ⟨fun _=>.dead _,fun b ⟨q,z,n,g,c,e,_⟩=>by cases e⟩
 | slice t t' z n g h ht hl he =>
  have key:Rp σ v (.slice .ro z n g)→Rp σ v (.slice .ro z n h):=fun r=>DEq.rp0 (.slice .ro .ro z n g h (.inl rfl) hl he) r
  rcases ht with rfl | rfl
  ·cases t' with
   | own q =>
    refine ⟨fun hr=>⟨key hr.1,hr.2⟩,fun b hb=>?_⟩
    obtain ⟨q',z',n',g',c,e1,e2,e3⟩:=hb
    cases e1
    exact ⟨_,_,_,g,c,rfl,e2,e3⟩
   | ro=>exact ⟨key,fun b ⟨q,z,n,g,c,e,_⟩=>by cases e⟩
   | full=>exact ⟨key,fun b ⟨q,z,n,g,c,e,_⟩=>by cases e⟩
  ·refine ⟨fun hr=>?_,fun b ⟨q,z,n,g,c,e,_⟩=>by cases e⟩
   cases t with
   | own q=>exact key hr.1
   | ro=>exact key hr
   | full=>exact key hr
 | agg l l' hl he =>
  refine ⟨fun ⟨cs,e1,e2,e3⟩=>⟨cs,e1,by rw [e2,hl],fun q hq=>(he q).rp (e3 q (by omega))⟩,fun b ⟨q,z,n,g,c,e,_⟩=>by cases e⟩
 | eptr l l' hl he=>exact ⟨fun _=>.dead _,fun b ⟨q,z,n,g,c,e,_⟩=>by cases e⟩
 | fn f l l' hl he=>exact ⟨fun _=>.dead _,fun b ⟨q,z,n,g,c,e,_⟩=>by cases e⟩
 | mp=>exact ⟨fun _=>.dead _,fun b ⟨q,z,n,g,c,e,_⟩=>by cases e⟩
 | newp l l' hl he =>
  refine ⟨fun ⟨b,c,e,h1,h2,h3,h4,h5,h6⟩=>⟨b,c,e,h1,h2,h3,h4.trans hl,fun j hj=>(he j).rp (h5 j (by omega)),h6⟩,fun b ⟨q,z,n,g,c,e,_⟩=>by cases e⟩
 | arr w1 z n g h e1 e2 =>
  refine ⟨fun ⟨a,c,h1,h2,h3⟩=>⟨a,c,h1,h2,fun hc=>?_⟩,fun b ⟨q,z,n,g,c,e,_⟩=>by cases e⟩
  obtain ⟨b,b1,b2,b3,o,b4,b5⟩:=h3 hc
  exact ⟨b,b1,b2,b3,o,b4,b5.deq e1 e2⟩
theorem DEqs.spec {l l':List D} (e:DEqs l l'):l.length=l'.length∧∀ {σ:Sg} {v:Value} (j:Nat),Rp σ v (nth l j .dead).pure1→Rp σ v (nth l' j .dead).pure1 :=
 ⟨e.1,fun j h=>(e.2 j).rp h⟩
theorem DEqs.res {l l':List D} (e:DEqs l l'):∀ {σ:Sg} {w:World} {B:Nat} {v:Value} (j:Nat),j < l'.length→(rL σ w B v (nth l j .dead)→rL σ w B v (nth l' j .dead))∧∀ b,cZ v (nth l' j .dead) b→cZ v (nth l j .dead) b :=
 fun j _=>(e.2 j).res
theorem DEqB.spec {l l':List (List D)} (e:DEqB l l'):l.length=l'.length∧∀ k,DEqs (l.getD k []) (l'.getD k []):=by
 induction e with
 | nil=>exact ⟨rfl,fun k=>by simpa using DEqs.refl _⟩
 | cons h _ ih =>
  refine ⟨by simp [ih.1],fun k=>?_⟩
  cases k with
  | zero=>simpa using h
  | succ k=>simpa using ih.2 k
theorem DEqs.length {l l':List D} (e:DEqs l l'):l.length=l'.length:=e.spec.1
section
variable {P:Program} {F:Nat→FuncId} {ft:FT} {E:Env} {np:Nat}
theorem iE {hp:Nat→Option (Bool×List D)}:∀ {l:List Nat} {k:List (List D)→Prop},cG hp l k→∃ bs,k bs∧bs.length=l.length∧∀ i,i < l.length→∃ cs,hp (l.getD i 0)=some (false,cs)∧okB cs=true∧bs.getD i []=fD false cs
 | [],k,h=>⟨[],h,rfl,fun i hi=>by simp at hi⟩
 | id::l,k,h=>by
  simp only [cG] at h
  split at h
  ·rename_i cs hc
   obtain ⟨hs,h⟩:=bZ h
   obtain ⟨bs,h1,h2,h3⟩:=iE h
   refine ⟨fD false cs::bs,h1,by simp [h2],fun i hi=>?_⟩
   cases i with
   | zero=>exact ⟨cs,by simpa using hc,hs,by simp⟩
   | succ i=>simpa using h3 i (by simpa using hi)
  ·exact h.elim
theorem kL:∀ {bs:List (List D)} {i j:Nat} {x:Bool×List D},ag (lY i bs) j=some x→i≤j∧j < i+bs.length∧x=(false,bs.getD (j - i) [])
 | [],_,_,_,h=>by simp [lY,ag] at h
 | b::bs,i,j,x,h=>by
  simp only [lY,ag] at h
  cases hb:Nat.beq j i with
  | true =>
   rw [hb] at h
   have:=Nat.eq_of_beq_eq_true hb
   subst this
   cases h
   simp
  | false =>
   rw [hb] at h
   obtain ⟨h1,h2,h3⟩:=kL h
   refine ⟨by omega,by simp only [List.length_cons]; omega,?_⟩
   rw [h3,show j - i=(j - (i+1))+1 from by omega]
   simp
theorem oD:∀ n,aDX n=List.range n
 | 0=>rfl
 | n+1=>by rw [List.range_succ,← oD n]; rfl
theorem kY (n:Nat):(zW n).length=n:=by
 induction n with
 | zero=>rfl
 | succ n ih=>simp [zW,ih]
theorem vG (n j:Nat):nth (zW n) j .dead=.dead:=by
 induction n generalizing j with
 | zero=>rfl
 | succ n ih=>cases j with
  | zero=>rfl
  | succ j=>exact ih j
def aIV (E:Env) (af:AF) (n np:Nat):aK:=fun vs bs K=>vs.length=n∧bs.length=np∧af.runs E K vs bs
theorem nH {fr:List D} {hp:Nat→Option (Bool×List D)}:∀ {rs:List RV} {tk:Nat→Option (Nat×Nat)} {k k':List D→Prop},(∀ l,k l→k' l)→qM fr hp rs tk k→qM fr hp rs tk k'
 | [],_,_,_,h,hk=>h _ hk
 | .tmp t::l,tk,k,k',h,hk=>by
  obtain ⟨d,tk',h1,h2⟩:=j9 hk
  exact h2 _ (nH (fun l hl=>h _ hl) h1)
 | .cell a g n::l,tk,k,k',h,hk=>by
  simp only [qM] at hk ⊢
  cases hd:nth fr a .dead with
  | ptr id off =>
   rw [hd] at hk
   simp only at hk ⊢
   cases hi:hp id with
   | none=>rw [hi] at hk; exact hk.elim
   | some e =>
    obtain ⟨f,cs⟩:=e
    rw [hi] at hk
    refine dT (wA (fun v u hv=>?_)) hk
    obtain ⟨d,tk',h1,h2⟩:=j9 hv
    exact h2 _ (nH (fun l hl=>h _ hl) h1)
  | _=>rw [hd] at hk; exact hk.elim
theorem mY {fr:List D} {hp:Nat→Option (Bool×List D)}:∀ {rs:List RV} {tk:Nat→Option (Nat×Nat)} {k:List D→Prop},qM fr hp rs tk k→∃ l,k l
 | [],_,_,hk=>⟨_,hk⟩
 | .tmp t::l,tk,k,hk=>by
  obtain ⟨d,tk',h1,_⟩:=j9 hk
  obtain ⟨l,h⟩:=mY h1
  exact ⟨_,h⟩
 | .cell a g n::l,tk,k,hk=>by
  simp only [qM] at hk
  cases hd:nth fr a .dead with
  | ptr id off =>
   rw [hd] at hk
   simp only at hk
   cases hi:hp id with
   | none=>rw [hi] at hk; exact hk.elim
   | some e =>
    obtain ⟨f,cs⟩:=e
    rw [hi] at hk
    obtain ⟨_,hk⟩:=bZ hk
    obtain ⟨v,u,_,hv⟩:=cK hk
    obtain ⟨d,tk',h1,_⟩:=j9 hv
    obtain ⟨l,h⟩:=mY h1
    exact ⟨_,h⟩
  | _=>rw [hd] at hk; exact hk.elim
theorem wV {rs:List RV} {ps:List Nat} {s:St} {k k':List D→Prop} (h:∀ l,k l→k' l) (hk:mD rs ps s k):mD rs ps s k':=by
 unfold mD at hk ⊢
 split
 ·simp only at hk
  split
  ·rename_i hd
   rw [hd] at hk
   simp only at hk
   split
   ·rename_i hi
    rw [hi] at hk
    exact dT (h _) hk
   ·rename_i hno
    split at hk
    ·rename_i cs hi
     exact (hno cs hi).elim
    ·exact hk
  ·rename_i hd
   rw [hd] at hk
   simp only at hk
   split
   ·rename_i hi
    rw [hi] at hk
    exact dT (fun hp=>⟨hp.1,h _ hp.2⟩) hk
   ·rename_i hno
    split at hk
    ·rename_i z' n' g hi
     exact (hno z' n' g hi).elim
    ·exact hk
  ·rename_i hno hno2
   split at hk
   ·rename_i id hd
    exact (hno id hd).elim
   ·rename_i id z n hd
    exact (hno2 id z n hd).elim
   ·exact nH h hk
 ·rename_i hno
  split at hk
  ·rename_i t
   exact (hno t rfl).elim
  ·exact nH h hk
theorem aEO {rs:List RV} {ps:List Nat} {s:St} {k:List D→Prop} (hk:mD rs ps s k):∃ l,k l:=by
 unfold mD at hk
 split at hk
 ·split at hk
  ·split at hk
   ·exact ⟨_,(bZ hk).2⟩
   ·exact hk.elim
  ·split at hk
   ·exact ⟨_,(bZ hk).2.2⟩
   ·exact hk.elim
  ·exact mY hk
 ·exact mY hk
theorem iL {hp:Nat→Option (Bool×List D)}:∀ {l:List Nat} {k k':List (List D)→Prop},(∀ b,k b→k' b)→cG hp l k→cG hp l k'
 | [],_,_,h,hk=>h _ hk
 | id::l,k,k',h,hk=>by
  simp only [cG] at hk ⊢
  split
  ·rename_i cs hc
   rw [hc] at hk
   exact dT (iL (fun b hb=>h _ hb)) hk
  ·rename_i hn
   split at hk
   ·rename_i cs hc
    exact (hn cs hc).elim
   ·exact hk
theorem aHF {rs:List RV} {ps:List Nat} {K K':List D→List (List D)→Prop} (h:∀ r b,K r b→K' r b):∀ e s,RP rs ps K e s→RP rs ps K' e s:=by
 have key:∀ s:St,(mD rs ps s fun vs=>cG s.hp ps fun bs=>aB2 K vs bs)→mD rs ps s fun vs=>cG s.hp ps fun bs=>aB2 K' vs bs:=fun s hk =>
  wV (fun l hl=>iL (fun b ⟨vs',bs',h1,h2,h3⟩=>⟨vs',bs',h1,h2,h _ _ h3⟩) hl) hk
 intro e s hk
 cases e with
 | normal=>exact key s hk
 | exit j=>exact hk.elim
 | ret=>exact key s hk
theorem aHH {rs:List RV} {ps:List Nat} {K:List D→List (List D)→Prop} {e:AE} {s:St} (hk:RP rs ps K e s):∃ r b,K r b:=by
 have key:(mD rs ps s fun vs=>cG s.hp ps fun bs=>aB2 K vs bs)→∃ r b,K r b:=fun hk=>by
  obtain ⟨l,h1⟩:=aEO hk
  obtain ⟨b,⟨vs',bs',_,_,h3⟩,_⟩:=iE h1
  exact ⟨_,_,h3⟩
 cases e with
 | normal=>exact key hk
 | exit j=>exact hk.elim
 | ret=>exact key hk
end
section
variable {P:Program} {F:Nat→FuncId} {ft:FT} {E:Env} {np:Nat}
theorem aCT (fn:Func) (tmps:Array Value):results fn tmps=(do let vs ← fn.results.mapM (uC tmps); pure (eE vs)):=by
 have:(fun r=>match r with
  | .tmp t=>pure (tmps.getD t undef)
  | .cell a t=>do loadVar t (← asAddr (tmps.getD a undef)):ResultVar→Sem Value)=uC tmps:=by
  funext r
  cases r <;> rfl
 rw [← this]
 rfl
theorem aE9 {σ:Og} {w:World} {ext:List Nat} {vals:Array Value} {ds:List D} {bs:List (List D)} (h:CPre F σ w ext vals ds bs) {n more:Nat} (hn:n - vals.size=more) {np:Nat} (hnp:bs.length≤np) :
  Rel F w.heap.size np w ext σ (G0 σ ext) (init ds bs more) { tmps:=vals++Array.replicate (n - vals.size) undef,defers:=[] } w∧∀ hi,Clean np hi (init ds bs more):=by
 have hb:∀ id cs,ag (lY 0 bs) id=some (false,cs)→id < bs.length∧cs=bs.getD id []:=fun id cs hx=>by
  obtain ⟨_,h2,h3⟩:=kL hx
  cases h3
  exact ⟨by omega,by simp⟩
 have hbt:∀ id cs,ag (lY 0 bs) id=some (true,cs)→False:=fun id cs hx=>by
  obtain ⟨_,_,h3⟩:=kL hx
  cases h3
 have ownb:∀ b i,bO (G0 σ ext) (ag (lY 0 bs)) (fun _=>none) b (.inl i)→i < bs.length∧b=ext.getD i 0:=fun b i ⟨cs,h1,h2⟩=>by
  obtain ⟨h3,h4⟩:=hb i cs h1
  refine ⟨h3,?_⟩
  have h2:Blk (G0 σ ext) i cs b:=h2
  rcases h2 with ⟨_,h2⟩ | ⟨w1,z,n1,g,c,h5,h6,h7⟩
  ·exact h2.symm
  ·rcases h.blocks i h3 with ⟨z',n',g',e1,a,c',e2,_,e3,e4⟩ | ⟨e1,_⟩
   ·rw [← h4,h5] at e1
    cases e1
    have h6:σ.η i n1=_:=h6
    rw [e2] at h6
    cases h6
    have:=(e4 h7).1
    cases this
    rfl
   ·rw [← h4,h5] at e1
    cases e1
 have extinj:∀ i j,i < bs.length→j < bs.length→ext.getD i 0=ext.getD j 0→i=j:=fun i j hi hj he=>by
  have hi':i < ext.length:=by rw [h.len]; exact hi
  have hj':j < ext.length:=by rw [h.len]; exact hj
  simp [hi',hj'] at he
  have hp:=List.pairwise_iff_getElem.1 h.nodup
  rcases Nat.lt_trichotomy i j with h1 | h1 | h1
  ·exact absurd he (hp i j hi' hj' h1)
  ·exact h1
  ·exact absurd he.symm (hp j i hj' hi' h1)
 refine ⟨⟨rfl,?_,fun i hi=>?_,?_,fun id _=>rfl⟩,fun hi=>⟨fun i hi'=>?_,fun i f cs hx=>?_,fun i e hx=>by cases hx⟩⟩
 ·simp only [init,List.length_append,kY,Array.size_append,Array.size_replicate,h.size,← hn]
 ·simp only [init,List.length_append,kY] at hi
  simp only [init]
  rw [hZ]
  split
  ·rename_i hlt
   have:(vals++Array.replicate (n - vals.size) undef).getD i undef=vals.getD i undef:=by
    simp only [Array.getD_eq_getD_getElem?]
    rw [Array.getElem?_append_left (by rw [h.size]; exact hlt)]
   rw [this]
   exact h.args i hlt
  ·rw [vG]
   exact Rd.dead _
 ·refine ⟨h.stab,fun b o _=>rfl,rfl,rfl,rfl,Nat.le_refl _,fun b _ _=>rfl,fun id cs hx hna=>?_,fun id fw z n g hx=>?_,fun id cs hx=>(hbt id cs hx).elim,fun i z n hx=>by simp [init] at hx,fun b k k' hk hk'=>?_,fun b k hk=>?_,fun b r hr=>(by cases hr),fun id x va n ks vs hx _=>?_⟩
  ·obtain ⟨h1,rfl⟩:=hb id cs hx
   rcases h.blocks id h1 with ⟨z,n,g,e1,_⟩ | ⟨h2,c,e,h3,h4,h5,h6⟩
   ·rw [e1] at hna
    cases hna
   ·exact ⟨_,h3,.inl ⟨h2,c,e,rfl,h4,fun j hj=>.pure (h5 j hj).1 (by rw [(h5 j hj).2]; exact bT _ _)⟩,h6⟩
  ·obtain ⟨h1,h2⟩:=hb id _ hx
   rcases h.blocks id h1 with ⟨z',n',g',e1,a,c,e2,e3,e4,e5⟩ | ⟨e1,_⟩
   ·rw [← h2] at e1
    cases e1
    refine ⟨a,c,⟨e2,e3,fun m hm=>e4 m (by omega),fun _=>⟨rfl,e2⟩,fun hc=>⟨_,(e5 hc).1⟩⟩,fun b hb' hc=>?_⟩
    obtain ⟨e6,e7,o,e8,e9⟩:=e5 hc
    rw [hb'] at e6
    cases e6
    exact ⟨e7,o,e8,e9⟩
   ·rw [← h2] at e1
    cases e1
  ·cases k with
   | inr i=>obtain ⟨_,_,_,h1,_⟩:=hk; cases h1
   | inl i =>
    cases k' with
    | inr j=>obtain ⟨_,_,_,h1,_⟩:=hk'; cases h1
    | inl j =>
     obtain ⟨h1,h2⟩:=ownb b i hk
     obtain ⟨h3,h4⟩:=ownb b j hk'
     rw [extinj i j h1 h3 (h2.symm.trans h4)]
  ·cases k with
   | inr i=>obtain ⟨_,_,_,h1,_⟩:=hk; cases h1
   | inl i =>
    obtain ⟨h1,h2⟩:=ownb b i hk
    refine .inr ⟨?_,i,rfl,by omega,by rw [h.len]; exact h1⟩
    rw [h2]
    have:i < ext.length:=by rw [h.len]; exact h1
    simp [this]
  ·obtain ⟨h1,h2⟩:=hb id _ hx
   rcases h.blocks id h1 with ⟨z',n',g',e1,_⟩ | ⟨e1,_⟩
   ·rw [← h2] at e1
    cases e1
   ·rw [← h2] at e1
    cases x <;> cases e1
 ·simp only [init,List.length_append,kY] at hi'
  simp only [init]
  rw [hZ]
  split
  ·rename_i hlt
   exact q5 (h.clean i hlt hi) hnp (Nat.le_refl _)
  ·rw [vG]
   rfl
 ·obtain ⟨_,h2,h3⟩:=kL hx
  cases h3
  refine ⟨by omega,?_⟩
  simp only [Nat.sub_zero]
  rcases h.blocks i (by omega) with ⟨z,n,g,e1,_⟩ | ⟨_,c,e,_,_,h5,_⟩
  ·rw [e1]
   rfl
  ·refine aU.2 fun d hd=>?_
   obtain ⟨j,hj,rfl⟩:=List.mem_iff_getElem.1 hd
   have:=(h5 j hj).2
   rw [cP _ _ hj] at this
   rw [this]
   exact dS _
theorem xL (n:Nat) (cuts:List (Nat×Σ α:Type,α→Tm)):n≤aGZ n cuts:=by
 unfold aGZ
 split
 ·rename_i j _ _
  cases h:(Nat.beq j 999999&&Nat.ble n 1000000) with
  | false=>exact Nat.le_refl _
  | true =>
   simp only [Bool.and_eq_true] at h
   exact Nat.le_of_ble_eq_true h.2
 ·exact Nat.le_refl _
theorem aFV (hE : EnvOk P F E) (hft : ∀ f j,ag ft f = some j → F j = f) (hmix : P.follows .mixedOrders = true) {f : FuncId} {fn : Func} (hf : P.funcs[f]? = some fn) (hname : (fn.name == "runtime.NumGoroutine") = false) {kills : List Hint} {cuts : List (Nat × Σ α : Type,α → Tm)} {af : AF}
  (ht:trF P ft np kills cuts fn=some af):bE P F f (aIV E af (fn.params.size+fn.nfree) np):=by
 unfold trF at ht
 cases hbd:fn.body with
 | none=>rw [hbd] at ht; cases ht
 | some c =>
  rw [hbd] at ht
  simp only at ht
  split at ht
  ·rename_i b ts' rs hc hrs
   cases ht
   refine ⟨fun args w=>?_,fun ds bs K K' hK hh=>⟨hh.1,hh.2.1,?_⟩,fun ds bs K hh=>?_,fun σ w ext vals ds bs K pre hh=>?_⟩
   ·have hname' : ¬ fn.name = "runtime.NumGoroutine" := by simpa using hname
    simp [callFunc,hf,hname',hbd]
   ·exact dK hE.mf b (aHF hK) hh.2.2
   ·obtain ⟨e,s',h⟩:=eF hE.mf b hh.2.2
    exact aHH h
   ·obtain ⟨hl,hlb,hrun⟩:=hh
    subst hlb
    obtain ⟨hle,hok⟩:=hG hE hft hmix c _ ts' b hc
    obtain ⟨r,hcl⟩:=aE9 pre (n:=fn.ntmps) (more:=fn.ntmps - (fn.params.size+fn.nfree)) (by rw [pre.size,hl]) (xL bs.length cuts)
    refine calls_of_wp hf hbd (hok (Nat.le_refl _) r hcl hrun ?_)
    intro e s' a' w' G' hq r' _
    have key:(mD rs (aDX bs.length) s' fun vs=>cG s'.hp (aDX bs.length) fun bs=>aB2 K vs bs)→a'.defers=[]∧∃ v,(results fn a'.tmps).run P w'=.ok v w'∧∃ vs rs bs' σ',Ending.returned v=.returned (eE vs)∧K rs bs'∧CPost σ w ext w' σ' rs bs' vs:=by
     intro hk
     have m:=r'.mem
     have hB:∀ i e b,s'.tk i=some e→bO G' s'.hp s'.tk b (.inr i)→w.heap.size≤b:=fun i e b _ ho=>by
      rcases m.own2 b _ ho with h | ⟨_,id,h,_⟩
      ·exact h
      ·cases h
     obtain ⟨vals',ds',e1,e2,e3,e4,e6⟩:=aCN (P:=P) m r'.slots hB (fun i hi=>by rw [oD]; exact List.mem_range.2 (by rw [pre.len] at hi; exact hi)) hrs hk
     obtain ⟨bs2,⟨vs',bs',d1,d2,hK⟩,b1,b2⟩:=iE e2
     obtain ⟨q1,q2⟩:=d2.spec
     have hlen:=d1.length
     rw [oD] at b1 b2
     simp only [List.length_range] at b1 b2
     refine ⟨r'.defers,eE vals'.toArray,?_,vals'.toArray,vs',bs',G'.σ,rfl,hK,?_⟩
     ·have hm:(fn.results.mapM (uC a'.tmps)).run P w'=.ok vals'.toArray w':=by
       rw [Array.mapM_eq_mapM_toList]
       simp [e1]
      rw [aCT]
      simp only [Sem.run_bind,hm,Result.andThen_ok,Sem.run_pure]
     ·refine ⟨m.stab,fun b o v hv=>?_,fun b o hb=>m.old b o hb,m.os,m.tape,m.output,m.base,fun b hb he=>m.keep b hb he,fun k f z n g hk1 hk2 hbk=>?_,fun k hk1 hk2 hk3'=>?_,by simp [e3,hlen],fun j hj=>?_,fun i j b hi hj ho ho'=>?_⟩
      ·obtain ⟨_,c0,e0,fz0,h1,_⟩:=pre.stab b o v hv
       rw [m.old b o (Array.getElem?_eq_some_iff.1 h1).1]
       exact hv
      ·have hk3:k < bs.length:=by omega
       obtain ⟨cs,h1,hsol,h2⟩:=b2 k hk3
       have h3:(List.range bs.length).getD k 0=k:=by simp [hk3]
       rw [h3] at h1
       have h8:=q2 k
       rw [h2,hbk] at h8
       obtain ⟨x,g0,e0,d3,d4⟩:=h8.arr_inv
       obtain ⟨fw,rfl⟩:∃ fw,cs=[.dead,.arr fw z n g0]:=by
        rcases cH false cs with ⟨fw,_,_,g2,rfl,h8⟩ | ⟨h7,h8⟩
        ·rw [h8] at e0
         cases e0
         exact ⟨fw,rfl⟩
        ·rw [h8] at e0
         have e5:=aX cs 1
         rw [e0] at e5
         generalize nth cs 1 D.dead=d at e5
         cases d <;> simp [nth,D.pure1] at e5
       obtain ⟨a0,c0,h9,h10⟩:=m.rows k fw z n g0 h1
       refine ⟨a0,c0,(h9.mine (Nat.lt_of_lt_of_le hk3 (xL _ _))).2,fun b hb0 hc0=>?_⟩
       obtain ⟨_,o0,h11,h12⟩:=h10 b hb0 hc0
       exact ⟨o0,h11,h12.deq d3 d4⟩
      ·have hk3:k < bs.length:=by omega
       obtain ⟨cs,h1,hsol0,h2⟩:=b2 k hk3
       have h3:(List.range bs.length).getD k 0=k:=by simp [hk3]
       rw [h3] at h1
       have h8:=q2 k
       rw [h2] at h8
       have hsol:aG cs=true:=by
        unfold okB at hsol0
        cases hh:bQ cs with
        | false=>rw [hh,Bool.or_false] at hsol0; exact hsol0
        | true =>
         obtain ⟨_,_,_,_,rfl⟩:=cV hh
         obtain ⟨y,e5,_⟩:=DEqs.of_arr (h8:DEqs [.dead,.arr _ _ _ _] _)
         rw [e5] at hk3'
         cases hk3'
       rw [oL (bP hsol)] at h8
       obtain ⟨o0,h4,hh0,_⟩:=m.vars k cs h1 (bP hsol)
       obtain ⟨c0,e0,rfl,h5,h6⟩:=hh0.cells hsol
       have h7:=r'.par k (Nat.lt_of_lt_of_le hk3 (xL _ _))
       rw [h7] at h4
       refine ⟨c0,e0,h4,by rw [h5,← h8.length,aI],fun j hj=>?_⟩
       rw [← h8.length,aI] at hj
       refine h8.spec.2 j ?_
       rw [aX,bH]
       exact (h6 j hj).pure1
      ·have h1:=e4 j (by omega)
       have h2:=(d1.res (σ:=G'.σ) (w:=w') (B:=w.heap.size) (v:=vals'.getD j undef) j (by omega)).1 h1
       simpa [bB] using h2
      ·have h1:=(d1.res (σ:=G'.σ) (w:=w') (B:=w.heap.size) (v:=vals'.getD i undef) i (by omega)).2 b (by simpa [bB] using ho)
       have h2:=(d1.res (σ:=G'.σ) (w:=w') (B:=w.heap.size) (v:=vals'.getD j undef) j (by omega)).2 b (by simpa [bB] using ho')
       exact e6 i j b (by omega) (by omega) h1 h2
    cases e with
    | normal=>exact key hq
    | exit j=>exact hq.elim
    | ret=>exact key hq
  ·cases ht
end
section
variable {P:Program} {F:Nat→FuncId} {ft:FT} {E:Env} {np:Nat} {f:FuncId}
theorem rB:∀ {bs:List (List D)} {k:Nat},qE bs=true→k < bs.length→okB (bs.getD k [])=true
 | [],k,_,hk=>by simp at hk
 | b::bs,0,h,_=>by simp only [qE,Bool.and_eq_true] at h; exact h.1
 | b::bs,k+1,h,hk=>by
  simp only [qE,Bool.and_eq_true] at h
  have:=rB h.2 (k:=k) (by simpa using hk)
  simpa using this
theorem CPre.deq {σ:Og} {w:World} {ext:List Nat} {vals:Array Value} {ds ds':List D} {bs bs':List (List D)} (h:CPre F σ w ext vals ds bs) (e:DEqs ds ds') (eb:DEqB bs bs') (hs:qE bs'=true):CPre F σ w ext vals ds' bs':=by
 obtain ⟨hl,hb⟩:=eb.spec
 refine ⟨h.stab,h.size.trans e.1,fun j hj=>(e.2 j).rd (h.args j (by rw [e.1]; exact hj)),fun j hj q=>by rw [← hl]; exact (e.2 j).names (h.clean j (by rw [e.1]; exact hj) q),h.len.trans hl,h.nodup,fun k hk=>?_⟩
 have d:=hb k
 have hok:=rB hs hk
 rcases h.blocks k (by rw [hl]; exact hk) with ⟨z,n,g,h1,a,c,h2,h3,h4,h5⟩ | ⟨h1,c,e',h2,h3,h4,h5⟩
 ·rw [h1] at d
  obtain ⟨y,e1,e2⟩:=d.of_arr
  rw [e1] at hok
  have hy:∃ g',y=.arr false z n g'∧(∀ i,i < n→(g i).length=(g' i).length)∧∀ i,i < n→∀ j,DEq (nth (g i) j .dead) (nth (g' i) j .dead):=by
   cases e2 with
   | refl=>exact ⟨g,rfl,fun _ _=>rfl,fun _ _ _=>.refl _⟩
   | dead=>cases hok
   | arr _ _ _ _ g' e3 e4=>exact ⟨g',rfl,e3,e4⟩
  obtain ⟨g',rfl,e3,e4⟩:=hy
  refine .inl ⟨z,n,g',e1,a,c,h2,h3,h4,fun hc=>?_⟩
  obtain ⟨h6,h7,o,h8,h9⟩:=h5 hc
  exact ⟨h6,h7,o,h8,h9.deq e3 e4⟩
 ·have hsol:aG (bs'.getD k [])=true:=by
   unfold okB at hok
   cases hh:bQ (bs'.getD k []) with
   | false=>rw [hh,Bool.or_false] at hok; exact hok
   | true =>
    obtain ⟨_,_,_,_,e1⟩:=cV hh
    rw [e1] at d
    obtain ⟨x,g,e2,_⟩:=d.arr_inv
    rw [e2] at h1
    cases x <;> cases h1
  refine .inr ⟨hsol,c,e',h2,h3.trans d.1,fun j hj=>?_,h5⟩
  obtain ⟨h6,h7⟩:=h4 j (by rw [d.1]; exact hj)
  exact ⟨(d.2 j).rp0 h6,(d.2 j).pure h6 h7⟩
theorem aIW {rs:List RV} {ps:List Nat} {vs':List D} {bs':List (List D)} {K:List D→List (List D)→Prop} (hK:K vs' bs'):∀ e s,RG rs ps vs' bs' e s→RP rs ps K e s:=by
 have key:∀ s:St,(mD rs ps s fun vs=>cG s.hp ps fun bs=>nV vs vs' (q9 bs bs' True))→mD rs ps s fun vs=>cG s.hp ps fun bs=>aB2 K vs bs:=fun s hk =>
  wV (fun l hl=>iL (fun b hb=>⟨vs',bs',(dE hb).1,(eX (dE hb).2).1,hK⟩) hl) hk
 intro e s hk
 cases e with
 | normal=>exact key s hk
 | exit j=>exact hk.elim
 | ret=>exact key s hk
structure Gv (p:Prop):Prop where
 ok:p
theorem Gv.of {p q:Prop} (e:p=q) (h:q):Gv p:=⟨e.mpr h⟩
theorem cC (hE : EnvOk P F E) (hft : ∀ f j,ag ft f = some j → F j = f) (hmix : P.follows .mixedOrders = true) {fn : Func} (hf : P.funcs[f]? = some fn) (hname : (fn.name == "runtime.NumGoroutine") = false) {α : Type} [Inhabited α] {kills : α → List Hint} {cuts : α → List (Nat × Σ β : Type,β → Tm)} {af : α → AF}
  (ht:∀ a,trF P ft np (kills a) (cuts a) fn=some (af a)) {args:α→List D} {blks:α→List (List D)} {pre:α→Prop} {res:α→List D} {blks':α→List (List D)} (hn:∀ a,(args a).length=fn.params.size+fn.nfree) (hb:∀ a,(blks a).length=np)
  (hok:∀ a,pre a→Gv ((af a).gives E (args a) (blks a) (res a) (blks' a))):bE P F f (FnC args blks pre res blks'):=by
 refine ⟨(aFV hE hft hmix hf hname (ht default)).enter,fun ds bs K K' hK hh=>?_,fun ds bs K hh=>?_,fun σ w ext vals ds bs K cp hh=>?_⟩
 ·obtain ⟨a,hh⟩:=hh
  exact ⟨a,dT (fN (iK fun ⟨h1,h2⟩=>⟨h1,hK _ _ h2⟩)) hh⟩
 ·obtain ⟨a,hh⟩:=hh
  exact ⟨_,_,(eX (dE (bZ hh).2).2).2.2⟩
 ·obtain ⟨a,hh⟩:=hh
  obtain ⟨h1,h2⟩:=bZ hh
  obtain ⟨h3,h4⟩:=dE h2
  obtain ⟨h5,h6,h7⟩:=eX h4
  exact (aFV hE hft hmix hf hname (ht a)).calls σ w ext vals _ _ K (cp.deq h3 h5 h1) ⟨hn a,hb a,dK hE.mf _ (aIW h7) (hok a h6).ok⟩
theorem bC (hF:∀ j q,F (j+1000 * q)=F j):EnvOk P F []:=⟨hF,fun j C h=>by simp [ag] at h⟩
theorem aFN {j:Nat} {C:aK} (h:COk P F (F j) C) (hE:EnvOk P F E):EnvOk P F ((j,C)::E):=⟨hE.1,fun i C' h'=>by
 simp only [ag] at h'
 cases hb:Nat.beq i j with
 | true =>
  rw [hb] at h'
  have:=Nat.eq_of_beq_eq_true hb
  subst this
  cases h'
  exact h
 | false =>
  rw [hb] at h'
  exact hE.2 i C' h'⟩
theorem aO {j:Nat} {C:aK} (h:bE P F (F j) C) (hE:EnvOk P F E):EnvOk P F ((j,C)::E):=aFN (.inl h) hE
theorem aIJ {j q:Nat} {C:aK} (h:bE P F (F j) C) (hE:EnvOk P F E):EnvOk P F ((j+1000 * q,C)::E):=aO (by rw [hE.1]; exact h) hE
theorem aG0 {j:Nat} {C:aK} (h:aHS P F (F j) C) (hE:EnvOk P F E):EnvOk P F ((j,C)::E):=aFN (.inr h) hE
theorem aIA {j : Nat} (hE : EnvOk P F E) (hft : ∀ f j,ag ft f = some j → F j = f) (hmix : P.follows .mixedOrders = true) {fn : Func} (hf : P.funcs[F j]? = some fn) (hname : (fn.name == "runtime.NumGoroutine") = false) {α : Type} [Inhabited α] {kills : α → List Hint} {cuts : α → List (Nat × Σ β : Type,β → Tm)} {af : α → AF}
  (ht:∀ a,trF P ft np (kills a) (cuts a) fn=some (af a)) {args:α→List D} {blks:α→List (List D)} {pre:α→Prop} {res:α→List D} {blks':α→List (List D)} (mu:α→Nat) (hn:∀ a,(args a).length=fn.params.size+fn.nfree) (hb:∀ a,(blks a).length=np)
  {En:Nat→Env} (hEn:∀ n,En n=(j,FnC args blks (fun a=>pre a∧mu a < n) res blks')::E)
  (hok:∀ n a,pre a→mu a < n+1→Gv ((af a).gives (En n) (args a) (blks a) (res a) (blks' a))):bE P F (F j) (FnC args blks pre res blks'):=by
 have key:∀ n,bE P F (F j) (FnC args blks (fun a=>pre a∧mu a < n) res blks'):=by
  intro n
  induction n with
  | zero=>exact cC hE hft hmix hf hname ht hn hb fun a h=>absurd h.2 (Nat.not_lt_zero _)
  | succ n ih=>exact cC (hEn n ▸ aO ih hE) hft hmix hf hname ht hn hb fun a h=>hok n a h.1 h.2
 refine ⟨(key 0).enter,fun ds bs K K' hK hh=>?_,fun ds bs K hh=>?_,fun σ w ext vals ds bs K cp hh=>?_⟩
 ·obtain ⟨a,hh⟩:=hh
  exact ⟨a,dT (fN (iK fun ⟨h1,h2⟩=>⟨h1,hK _ _ h2⟩)) hh⟩
 ·obtain ⟨a,hh⟩:=hh
  exact ⟨_,_,(eX (dE (bZ hh).2).2).2.2⟩
 ·obtain ⟨a,hh⟩:=hh
  exact (key (mu a+1)).calls σ w ext vals ds bs K cp ⟨a,dT (fN (iK fun ⟨h1,h2⟩=>⟨⟨h1,Nat.lt_succ_self _⟩,h2⟩)) hh⟩
end
structure Codec (α:Type) where
 len:Nat
 enc:α→List D
 ok:α→Prop
 size:α→Nat
def zG:Codec Bool:=⟨1,fun b=>[.bool b],fun _=>True,fun _=>1⟩
def aAN (k:IntKind):Codec Int:=⟨1,fun n=>[.int k n],fun n=>(Lit.int k n).wf=true,fun _=>1⟩
def yT:Codec UInt8:=⟨1,fun n=>[.int .u8 (n.toNat:Int)],fun _=>True,fun _=>1⟩
def aJD:Codec UInt8:=yT
def aGI:Codec ByteArray:=⟨1,fun s=>[.str s],fun _=>True,fun s=>s.size+1⟩
def eN {α:Type} [Inhabited α] (C:Codec α):Codec (List α):=⟨1,fun l=>[.slice .ro C.len l.length (gl C.enc l)],fun l=>∀ a∈l,C.ok a,fun l=>(l.map C.size).sum+1⟩
def cL {α β:Type} (C:Codec α) (D:Codec β):Codec (α×β):=⟨C.len+D.len,fun a=>C.enc a.1++D.enc a.2,fun a=>C.ok a.1∧D.ok a.2,fun a=>C.size a.1+D.size a.2⟩
def nK {α:Type} (C:Codec α):Codec α:=⟨C.len,C.enc,C.ok,fun a=>C.size a+1⟩
end Go.Abs
