/- The abstract machine and its soundness. -/
import Derived.ChangeOld
import Derived.OpenShut
import Derived.Orders
import Derived.Scope
import GoSem.Claim
import Derived.Test.YtcmjinkfgbadoabLabelsBothP2
set_option linter.unusedVariables false
set_option linter.unusedSimpArgs false
set_option linter.unusedSectionVars false
namespace Go.Abs
open Go
section
variable {E:Env} {o p q:AO} {hp hp':Nat→Option (Bool×List D)} {tk tk':Nat→Option (Nat×Nat)} {args:List D} {k k':D→Upd→Prop} {s:St} {lo hi:Nat}
theorem Tidy.dead (h:Tidy lo hi s) (dst:Option Nat):Tidy lo hi (s.next dst (.tup []) Upd.none) :=
 h.after (v:=.tup []) ⟨rfl,fun e he=>by cases he⟩ (fun x hx=>by simp [Upd.none] at hx) (fun x hx=>by simp [Upd.none] at hx) dst
theorem aJA (d:D) (i:Nat):FlatS (d.res.own i)∧(match d.res.own i with | .agg c=>∀ x∈c,Cell x∧x=x.pure1 | .tup _=>False | _=>True):=by
 cases d with
 | slice t z n g=>cases t <;> exact ⟨trivial,trivial⟩
 | agg c =>
  refine ⟨eO c,fun x hx=>⟨eO c x hx,?_⟩⟩
  obtain ⟨y,_,rfl⟩:=f0 hx
  exact (bN y).symm
 | _=>exact ⟨trivial,trivial⟩
theorem aGF (rs:List D) (id:Nat):FlatS (lL (cJ (aZ rs) id)):=by
 have hnth:∀ j,FlatS (nth (cJ (aZ rs) id) j .dead)∧(match nth (cJ (aZ rs) id) j .dead with | .agg c=>∀ x∈c,Cell x∧x=x.pure1 | .tup _=>False | _=>True):=fun j=>by
  rw [nS,hU]
  exact aJA _ _
 generalize cJ (aZ rs) id=l at hnth
 match l with
 | []=>intro e he; cases he
 | [d]=>exact (hnth 0).1
 | d::d'::l =>
  show FlatS (.tup (d::d'::l))
  intro e he
  obtain ⟨j,hj,rfl⟩:=List.mem_iff_getElem.1 he
  have:=(hnth j).2
  rw [dK _ _ hj] at this
  exact this
theorem pF (k:Nat) (f:Bool) (cs:List D):∀ e∈nD k (eQ f cs),Cell e:=by
 rcases bH f cs with ⟨_,z,n,g,rfl,e⟩ | ⟨_,_,_,_,_,_,_,rfl,e⟩ | ⟨_,_,e⟩
 ·rw [e,bR rfl]
  intro x hx
  simp only [List.mem_cons,List.not_mem_nil,or_false] at hx
  rcases hx with rfl | rfl <;> trivial
 ·rw [e]
  intro x hx
  simp only [nD,List.mem_cons,List.not_mem_nil,or_false] at hx
  rcases hx with rfl | rfl <;> trivial
 ·rw [e,bR (bL (bM _))]
  exact eO _
theorem aGH (h:Tidy lo hi s) {id:Nat} {ids:List Nat} {bs bs':List (List D)} (hb:cL s.hp ids=some bs) {rs:List D} (h4:rs.length≤4) (hid:id+4≤lo∨hi≤id) (dst:Option Nat) :
  Tidy lo hi (s.next dst (lL (cJ (aZ rs) id)) ⟨aY s.hp ids bs',aW (aZ rs) id⟩):=by
 have hc:=uG h.clean hb (bs':=bs') h4 hid dst
 refine ⟨fun d hd=>?_,fun i f cs hx=>?_,hc.tk⟩
 ·obtain ⟨j,hj,rfl⟩:=List.mem_iff_getElem.1 hd
  have h1:=hc.fr j hj
  rw [dK _ _ hj] at h1
  refine ⟨h1,?_⟩
  rcases lW hd with h2 | h2
  ·rw [h2]; exact aGF rs id
  ·exact (h.fr _ h2).2
 ·refine ⟨(hc.hp i f cs hx).1,(hc.hp i f cs hx).2,?_⟩
  rcases kV hx with h1 | h1
  ·exact (h.hp i f cs h1).2.2
  ·obtain ⟨_,f,c,kk,h3⟩:=lF h1
   simp only at h3
   rw [h3]
   exact pF kk f c
theorem wW (h:Tidy lo hi s) {id:Nat} {ids:List Nat} {bs bs':List (List D)} (hb:cL s.hp ids=some bs) {l:List D} (hid:id+4≤lo∨hi≤id) (dst:Option Nat) :
  Tidy lo hi (s.next dst (.ptr id 0) ⟨aY s.hp ids bs'++[(id,false,aM l)],[]⟩):=by
 have hc:=m9 h.clean hb (bs':=bs') (l:=l) hid dst
 refine ⟨fun d hd=>?_,fun i f cs hx=>?_,hc.tk⟩
 ·obtain ⟨j,hj,rfl⟩:=List.mem_iff_getElem.1 hd
  have h1:=hc.fr j hj
  rw [dK _ _ hj] at h1
  refine ⟨h1,?_⟩
  rcases lW hd with h2 | h2
  ·rw [h2]; trivial
  ·exact (h.fr _ h2).2
 ·refine ⟨(hc.hp i f cs hx).1,(hc.hp i f cs hx).2,?_⟩
  rcases kV hx with h1 | h1
  ·exact (h.hp i f cs h1).2.2
  ·rcases List.mem_append.1 h1 with h1 | h1
   ·obtain ⟨_,f,c,kk,h3⟩:=lF h1
    simp only at h3
    rw [h3]
    exact pF kk f c
   ·simp only [List.mem_singleton,Prod.mk.injEq] at h1
    obtain ⟨_,_,rfl⟩:=h1
    exact eO l
theorem xH (h:Tidy lo hi s) {id:Nat} {ids:List Nat} {bs bs':List (List D)} (hb:cL s.hp ids=some bs) {z n:Nat} {g:Nat→List D} (hid:id+4≤lo∨hi≤id) (dst:Option Nat) :
  Tidy lo hi (s.next dst (.msl id z n) ⟨aY s.hp ids bs'++[(id,false,[.dead,.arr true z n g])],[]⟩):=by
 have hc:=nC h.clean hb (bs':=bs') (z:=z) (n:=n) (g:=g) hid dst
 refine ⟨fun d hd=>?_,fun i f cs hx=>?_,hc.tk⟩
 ·obtain ⟨j,hj,rfl⟩:=List.mem_iff_getElem.1 hd
  have h1:=hc.fr j hj
  rw [dK _ _ hj] at h1
  refine ⟨h1,?_⟩
  rcases lW hd with h2 | h2
  ·rw [h2]; trivial
  ·exact (h.fr _ h2).2
 ·refine ⟨(hc.hp i f cs hx).1,(hc.hp i f cs hx).2,?_⟩
  rcases kV hx with h1 | h1
  ·exact (h.hp i f cs h1).2.2
  ·rcases List.mem_append.1 h1 with h1 | h1
   ·obtain ⟨_,f,c,kk,h3⟩:=lF h1
    simp only at h3
    rw [h3]
    exact pF kk f c
   ·simp only [List.mem_singleton,Prod.mk.injEq] at h1
    obtain ⟨_,_,rfl⟩:=h1
    intro e he
    simp only [List.mem_cons,List.not_mem_nil,or_false] at he
    rcases he with rfl | rfl <;> trivial
theorem s8 {op:AOp} {id:Nat} (h:kA op id=false):aCG op=false:=by
 unfold kA at h
 cases hl:aCG op with
 | false=>rfl
 | true=>rw [hl] at h; cases h
def aBV (o:AO) (s:St) (v:D) (u:Upd):Prop :=
 Keys o.op o.id s.tk u∧∀ lo hi,Tidy lo hi s→(o.id+bF o.op≤lo∨hi≤o.id)→Tidy lo hi (s.next o.dst v u)
theorem uS (hE:fU E) (hok:jO o.op=true) (hax:o.args.all mH=true) (h:step E o.op o.id s.hp s.tk (evs s.fr o.args) k):step E o.op o.id s.hp s.tk (evs s.fr o.args) (fun v u=>k v u∧aBV o s v u):=by
 cases hc:eS o.op with
 | true =>
  obtain ⟨C,vs,p,h1,h2,h3⟩:=(jF hc o.id).1 h
  refine (jF hc o.id).2 ⟨C,vs,p,h1,h2,?_⟩
  obtain ⟨bs,h4,h5,h50,h6⟩:=pK.1 h3
  refine pK.2 ⟨bs,h4,h5,h50,?_⟩
  obtain ⟨j,hj⟩:=rG h1
  refine (hE j C hj).1 _ _ _ _ (fun rs bs' hh=>?_) h6
  obtain ⟨v,u,hho,hk⟩:=cK hh
  have hi4:bF o.op=4:=by cases hop:o.op <;> rw [hop] at hc <;> first | rfl | cases hc
  have hzip:aCG o.op=false→aY s.hp (ptrs vs) bs'=[]:=fun hl'=>by
   have hp:p=false:=by
    cases hop:o.op <;> rw [hop] at hc hl' h1 <;> first | cases hc | skip
    ·simp only [callee,Option.map_eq_some_iff] at h1
     obtain ⟨_,_,h1⟩:=h1
     cases h1
     cases p <;> first | rfl | cases hl'
    ·simp only [callee] at h1
     split at h1
     ·simp only [Option.map_eq_some_iff] at h1
      obtain ⟨_,_,h1⟩:=h1
      cases h1
      cases p <;> first | rfl | cases hl'
     ·cases h1
   subst hp
   have hn:=h2.resolve_left (by simp)
   rw [pB hn]
   rfl
  have hq0:s9 o.op=true→u=Upd.none:=fun hq=>by
   cases hop:o.op <;> rw [hop] at hc hq <;> first | (cases hq; done) | (cases hc; done)
  refine gM hho ⟨hk,⟨hq0,fun hl0 x hx=>?_,fun x hx=>.inl ?_⟩,fun lo hi ht hid=>?_⟩
  ·have hl':=s8 hl0
   obtain ⟨_,⟨_,rfl,rfl⟩ | ⟨l,rfl,_,rfl,rfl⟩ | ⟨_,_,_,_,rfl,rfl,rfl⟩⟩:=hG hho
   ·rw [hzip hl'] at hx
    simp at hx
   ·rw [hzip hl'] at hx
    simp only [List.nil_append,List.mem_singleton] at hx
    subst hx
    simp only
    omega
   ·rw [hzip hl'] at hx
    simp only [List.nil_append,List.mem_singleton] at hx
    subst hx
    simp only
    omega
  ·obtain ⟨_,⟨hl,rfl,rfl⟩ | ⟨l,rfl,_,rfl,rfl⟩ | ⟨_,_,_,_,rfl,rfl,rfl⟩⟩:=hG hho
   ·have e1:=gP _ _ _ hx
    have e2:=lQ _ _ _ hx
    rw [cQ] at e2
    omega
   ·simp at hx
   ·simp at hx
  ·rw [hi4] at hid
   obtain ⟨_,⟨hl,rfl,rfl⟩ | ⟨l,rfl,_,rfl,rfl⟩ | ⟨_,_,_,_,rfl,rfl,rfl⟩⟩:=hG hho
   ·exact aGH ht h4 hl hid o.dst
   ·exact wW ht h4 hid o.dst
   ·exact xH ht h4 hid o.dst
 | false =>
  cases hn:jE o.op with
  | true =>
   have hop:=rO hn
   have h0:step E .mapNext o.id s.hp s.tk (evs s.fr o.args) k:=hop ▸ h
   obtain ⟨i,hi,h1⟩:=(kN o.id).1 h0
   rw [hop]
   refine (kN o.id).2 ⟨i,hi,xP (fun v u hv hk=>⟨hk,?_⟩) h1⟩
   unfold aBV
   rw [hop]
   have hut:u.t=[]:=by rcases hv with ⟨_,rfl⟩ | ⟨_,_,_,_,_,_,_,_,_,_,_,_,_,_,_,rfl⟩ <;> rfl
   refine ⟨⟨fun h=>(by cases h),fun h=>(by cases h),fun x hx=>by rw [hut] at hx; simp at hx⟩,fun lo hi ht hid=>?_⟩
   obtain ⟨e1,e2,e3⟩:=t7 hv ht.hp
   refine ht.after ⟨e1,?_⟩ (fun x hx=>⟨(e2 x hx).1,(e2 x hx).2,?_⟩) (fun x hx=>by rw [e3] at hx; simp at hx) o.dst
   ·rcases hv with ⟨rfl,_⟩ | ⟨_,_,_,_,_,_,_,_,_,_,_,_,_,_,rfl,_⟩
    ·intro e he
     simp only [List.mem_cons,List.not_mem_nil,or_false] at he
     subst he
     trivial
    ·intro e he
     simp only [List.mem_cons,List.not_mem_nil,or_false] at he
     rcases he with rfl | rfl | rfl
     ·trivial
     ·trivial
     ·exact n9
   ·rcases hv with ⟨_,rfl⟩ | ⟨_,_,_,_,_,_,_,_,_,_,_,_,_,_,_,rfl⟩
    ·simp [Upd.none] at hx
    ·refine qQ ?_ ?_ x hx <;> trivial
  | false =>
  have h:=(gG hc hn o.id).1 h
  obtain ⟨v,u,h1,h2⟩:=cK h
  refine (gG hc hn o.id).2 (gM h1 ⟨h2,aIA h1,fun lo hi ht hid=>?_⟩)
  have ha:=uE ht hax
  obtain ⟨e1,e2,e3⟩:=xZ h1 hok (fun d hd=>⟨(ha d hd).1,(ha d hd).2.flatD⟩) ht.hp ht.tk hid
  obtain ⟨e4,e5⟩:=aHV h1 hok (fun d hd=>(ha d hd).2) (fun i f cs hx=>(ht.hp i f cs hx).2.2)
  exact ht.after ⟨e1,e4⟩ (fun x hx=>⟨(e2 x hx).1,(e2 x hx).2,e5 x hx⟩) e3 o.dst
theorem lR (hE:fU E) (hok:jO o.op=true) (hax:o.args.all mH=true) {gd:D} (h:jP E o s.hp s.tk (evs s.fr o.args) gd k):jP E o s.hp s.tk (evs s.fr o.args) gd (fun v u=>k v u∧aBV o s v u):=by
 unfold jP at h ⊢
 cases hg:o.guard with
 | none=>rw [hg] at h; exact uS hE hok hax h
 | some jw =>
  obtain ⟨j,w⟩:=jw
  rw [hg] at h
  simp only at h ⊢
  cases hb:gw gd w with
  | none=>rw [hb] at h; exact h.elim
  | some b =>
   rw [hb] at h
   cases b with
   | true=>exact uS hE hok hax h
   | false=>exact ⟨h,Keys.none,fun lo hi ht _=>ht.dead o.dst⟩
def D.idOf:D→Option Nat
 | .ptr i _=>some i
 | .mref i=>some i
 | .msl i _ _=>some i
 | .rptr i _ _ _ _=>some i
 | .oref i _ _=>some i
 | .kseq _ i _ _=>some i
 | _=>none
theorem aED {d:D} {i lo hi:Nat} (h:d.idOf=some i) (hn:d.names lo hi=false):(Nat.ble lo i&&Nat.blt i hi)=false:=by
 cases d <;> cases h <;> exact hn
def Alike' (op:AOp) (args:List D) (hp hp':Nat→Option (Bool×List D)) (tk tk':Nat→Option (Nat×Nat)):Prop :=
 o9 op=false∧(s9 op=true∨(hp=hp'∧tk=tk') ∨
 (aCG op=false∧(∀ d∈args,∀ i,d.idOf=some i→hp i=hp' i)∧(jB op=true→∀ i z n g,D.slice (.own i) z n g∈args→tk i=tk' i)))
theorem qN {id sz bytes:Nat} {t:Tag} {z n:Nat} {g:Nat→List D} {m:Nat} {kk:Nat→List D} (h:∀ i,t=.own i→tk i=tk' i):dF id sz bytes tk t z n g m kk=dF id sz bytes tk' t z n g m kk:=by
 unfold dF
 cases t with
 | own i=>simp only [h i rfl]
 | _=>rfl
theorem vH {op:AOp} {id:Nat} (hw:o9 op=false) (h:s9 op=true∨(aCG op=false∧∀ d∈args,∀ i,d.idOf=some i→hp i=hp' i)):jN op id hp args=jN op id hp' args:=by
 rcases h with h | ⟨h1,h2⟩
 ·unfold jN
  split <;> first | rfl | (cases h; done)
 ·unfold jN
  split <;> first | rfl | (cases h1; done) | (cases hw; done) | skip
  ·rename_i i j b
   rw [h2 (.oref i j b) (by simp) i rfl]
  ·rename_i i j b k
   rw [h2 (.oref i j b) (by simp) i rfl]
  ·rename_i i j b kx ky
   rw [h2 (.oref i j b) (by simp) i rfl]
  ·rename_i i j b
   rw [h2 (.oref i j b) (by simp) i rfl]
  ·rename_i i off r
   rw [h2 (.ptr i off) (by simp) i rfl]
theorem aG1 {op:AOp} {id:Nat} (h:Alike' op args hp hp' tk tk'):aR op id hp tk args=aR op id hp' tk' args:=by
 obtain ⟨hw,h⟩:=h
 rcases h with h | ⟨rfl,rfl⟩ | ⟨h1,h2,h3⟩
 ·unfold aR
  split <;> first | rfl | (cases h; done) | exact vH hw (.inl h)
 ·rfl
 ·unfold aR
  split <;> first | rfl | (cases h1; done) | skip
  ·rename_i g n i off
   simp only [h2 (.ptr i off) (by simp) i rfl]
  ·rename_i sz bytes t z n g t' z' m g'
   rw [qN (fun i e=>h3 rfl i z n g (by simp [e]))]
  ·rename_i sz bytes t z n g b
   rw [qN (fun i e=>h3 rfl i z n g (by simp [e]))]
  ·rename_i i
   rw [h2 (.mref i) (by simp) i rfl]
  ·rename_i i k
   rw [h2 (.mref i) (by simp) i rfl]
  ·rename_i isAgg m j z n i o
   rw [h2 (.rptr j z n i o) (by simp) j rfl]
  ·rename_i sz bytes j z n t z' m h
   rw [h2 (.msl j z n) (by simp) j rfl]
  ·rename_i g g' i j b
   rw [h2 (.kseq g' i j b) (by simp) i rfl]
  ·exact vH hw (.inr ⟨h1,h2⟩)
theorem aAM (id:Nat) (bs rs bs'):gZ id [] hp bs rs bs'=gZ id [] hp' bs rs bs':=by
 unfold gZ
 split <;> rfl
theorem aBR {C:bA} {id:Nat} {vs:List D} (h:ptrs vs=[]) (hk:fK C id vs hp k):fK C id vs hp' k:=by
 unfold fK at hk ⊢
 rw [h] at hk ⊢
 have e:∀ bs rs bs',gZ id [] hp bs rs bs'=gZ id [] hp' bs rs bs':=fun bs rs bs'=>aAM id bs rs bs'
 simp only [e] at hk
 exact hk
theorem uX {op:AOp} {id:Nat} (h:Alike' op args hp hp' tk tk') (hk:step E op id hp tk args k):step E op id hp' tk' args k:=by
 cases hc:eS op with
 | true =>
  obtain ⟨_,h⟩:=h
  rcases h with h | ⟨rfl,rfl⟩ | ⟨h1,h2,h3⟩
  ·cases op <;> first | (cases h; done) | (cases hc; done)
  ·exact hk
  ·obtain ⟨C,vs,p,e1,e2,e3⟩:=(jF hc id).1 hk
   have hp0:p=false:=by
    cases op <;> first | cases hc | skip
    ·simp only [callee,Option.map_eq_some_iff] at e1
     obtain ⟨_,_,e1⟩:=e1
     cases e1
     cases p <;> first | rfl | cases h1
    ·simp only [callee] at e1
     split at e1
     ·simp only [Option.map_eq_some_iff] at e1
      obtain ⟨_,_,e1⟩:=e1
      cases e1
      cases p <;> first | rfl | cases h1
     ·cases e1
   subst hp0
   have hn:=pB (e2.resolve_left (by simp))
   exact (jF hc id).2 ⟨C,vs,false,e1,e2,aBR hn e3⟩
 | false =>
  have hn:jE op=false:=by
   have:=h.1
   cases op <;> first | rfl | cases this
  have:=(gG hc hn id).1 hk
  rw [aG1 h] at this
  exact (gG hc hn id).2 this
theorem vE {gd:D} (h:Alike' o.op args hp hp' tk tk') (hk:jP E o hp tk args gd k):jP E o hp' tk' args gd k:=by
 unfold jP at hk ⊢
 cases hg:o.guard with
 | none=>rw [hg] at hk; exact uX h hk
 | some jw =>
  obtain ⟨j,w⟩:=jw
  rw [hg] at hk
  simp only at hk ⊢
  cases hb:gw gd w with
  | none=>rw [hb] at hk; exact hk.elim
  | some b =>
   rw [hb] at hk
   cases b with
   | true=>exact uX h hk
   | false=>exact hk
def aLB (o:AO) (hp:Nat→Option (Bool×List D)) (tk:Nat→Option (Nat×Nat)) (args:List D) (gd:D):Out :=
 match o.guard with
 | none=>aR o.op o.id hp tk args
 | some (_,w)=>match gw gd w with
  | some true=>aR o.op o.id hp tk args
  | some false=>.ok (.tup []) Upd.none
  | none=>.bad
theorem nG (hc:eS o.op=false) (hn:jE o.op=false) {gd:D}:jP E o hp tk args gd k↔(aLB o hp tk args gd).then k:=by
 unfold jP aLB
 cases o.guard with
 | none=>exact gG hc hn o.id
 | some jw =>
  obtain ⟨j,w⟩:=jw
  simp only
  cases gw gd w with
  | none=>exact Iff.rfl
  | some b =>
   cases b with
   | true=>exact gG hc hn o.id
   | false=>exact Iff.rfl
theorem aGS {o:Out} {v v':D} {u u':Upd} (h:o.holds v u) (h':o.holds v' u'):v=v'∧u=u':=by
 cases o with
 | bad=>exact (aC h).elim
 | ok _ _=>obtain ⟨rfl,rfl⟩:=aV h; obtain ⟨rfl,rfl⟩:=aV h'; exact ⟨rfl,rfl⟩
 | ask _ _ _=>obtain ⟨_,rfl,rfl⟩:=aS h; obtain ⟨_,rfl,rfl⟩:=aS h'; exact ⟨rfl,rfl⟩
 | chk _ _ _=>obtain ⟨_,rfl,rfl⟩:=aK h; obtain ⟨_,rfl,rfl⟩:=aK h'; exact ⟨rfl,rfl⟩
 | alt b _ _ _ _ =>
  rcases bV h with ⟨hb,rfl,rfl⟩ | ⟨hb,rfl,rfl⟩ <;> rcases bV h' with ⟨hb',rfl,rfl⟩ | ⟨hb',rfl,rfl⟩ <;> first | exact ⟨rfl,rfl⟩ | (rw [hb] at hb'; cases hb')
theorem aIL (hE:fU E) (hcalls:(eS q.op&&eS p.op)=false) (hnq:jE q.op=false) (hnp:jE p.op=false) {aq ap gq gp} {f:D→Upd→D→Upd→Prop} (h:jP E q hp tk aq gq (fun vq uq=>jP E p hp tk ap gp (fun vp up=>f vq uq vp up))) :
  jP E p hp tk ap gp (fun vp up=>jP E q hp tk aq gq (fun vq uq=>f vq uq vp up)):=by
 cases hq:eS q.op with
 | false =>
  obtain ⟨vq,uq,h1,h2⟩:=cK ((nG hq hnq).1 h)
  exact fZ hE (fun vp up h3=>(nG hq hnq).2 (gM h1 h3)) h2
 | true =>
  have hp':eS p.op=false:=by rw [hq] at hcalls; simpa using hcalls
  obtain ⟨vq,uq,h1⟩:=yJ hE h
  obtain ⟨vp,up,h2,_⟩:=cK ((nG hp' hnp).1 h1)
  refine (nG hp' hnp).2 (gM h2 ?_)
  refine fZ hE (fun vq uq h3=>?_) h
  obtain ⟨vp',up',h4,h5⟩:=cK ((nG hp' hnp).1 h3)
  have:vp'=vp∧up'=up:=by
   exact aGS h4 h2
  rw [← this.1,← this.2]
  exact h5
end
section
variable {E:Env} {o p q:AO} {s:St} {lo hi:Nat}
theorem gC:∀ {l:List (Nat×Bool×List D)} {f:Nat→Option (Bool×List D)} {j:Nat},(∀ x∈l,x.1≠j)→bX f l j=f j
 | [],_,_,_=>rfl
 | (i,e)::l,f,j,h=>by
  simp only [bX]
  rw [gC (fun x hx=>h x (List.mem_cons_of_mem _ hx))]
  have:Nat.beq j i=false:=by
   cases hh:Nat.beq j i with
   | false=>rfl
   | true=>exact absurd (Nat.eq_of_beq_eq_true hh).symm (h (i,e) (by simp))
  rw [this]
  rfl
theorem aAL:∀ {l:List (Nat×Bool×List D)} {f g:Nat→Option (Bool×List D)} {j:Nat},(∃ x∈l,x.1=j)→bX f l j=bX g l j
 | [],_,_,_,h=>by obtain ⟨_,h,_⟩:=h; cases h
 | (i,e)::l,f,g,j,h=>by
  simp only [bX]
  by_cases hl:∃ x∈l,x.1=j
  ·exact aAL hl
  ·have h':∀ x∈l,x.1≠j:=fun x hx he=>hl ⟨x,hx,he⟩
   rw [gC h',gC h']
   obtain ⟨x,hx,rfl⟩:=h
   simp only [List.mem_cons] at hx
   rcases hx with rfl | hx
   ·simp [Nat.beq_refl]
   ·exact absurd rfl (h' x hx)
theorem y6:∀ {l:List (Nat×Nat×Nat)} {f g:Nat→Option (Nat×Nat)} {j:Nat},(∃ x∈l,x.1=j)→cF f l j=cF g l j
 | [],_,_,_,h=>by obtain ⟨_,h,_⟩:=h; cases h
 | (i,e)::l,f,g,j,h=>by
  simp only [cF]
  by_cases hl:∃ x∈l,x.1=j
  ·exact y6 hl
  ·have h':∀ x∈l,x.1≠j:=fun x hx he=>hl ⟨x,hx,he⟩
   rw [eY h',eY h']
   obtain ⟨x,hx,rfl⟩:=h
   simp only [List.mem_cons] at hx
   rcases hx with rfl | hx
   ·simp [Nat.beq_refl]
   ·exact absurd rfl (h' x hx)
theorem aGK {l1 l2:List (Nat×Bool×List D)} {f:Nat→Option (Bool×List D)} (h:∀ x∈l1,∀ y∈l2,x.1≠y.1):bX (bX f l1) l2=bX (bX f l2) l1:=by
 funext j
 by_cases h1:∃ x∈l1,x.1=j
 ·obtain ⟨x,hx,rfl⟩:=h1
  rw [gC (l:=l2) fun y hy he=>h x hx y hy he.symm]
  exact aAL ⟨x,hx,rfl⟩
 ·have h1':∀ x∈l1,x.1≠j:=fun x hx he=>h1 ⟨x,hx,he⟩
  rw [gC (l:=l1) (f:=bX f l2) h1']
  by_cases h2:∃ x∈l2,x.1=j
  ·exact aAL h2
  ·have h2':∀ x∈l2,x.1≠j:=fun x hx he=>h2 ⟨x,hx,he⟩
   rw [gC h2',gC h1',gC h2']
theorem aF0 {l1 l2:List (Nat×Nat×Nat)} {f:Nat→Option (Nat×Nat)} (h:∀ x∈l1,∀ y∈l2,x.1≠y.1):cF (cF f l1) l2=cF (cF f l2) l1:=by
 funext j
 by_cases h1:∃ x∈l1,x.1=j
 ·obtain ⟨x,hx,rfl⟩:=h1
  rw [eY (l:=l2) fun y hy he=>h x hx y hy he.symm]
  exact y6 ⟨x,hx,rfl⟩
 ·have h1':∀ x∈l1,x.1≠j:=fun x hx he=>h1 ⟨x,hx,he⟩
  rw [eY (l:=l1) (tk:=cF f l2) h1']
  by_cases h2:∃ x∈l2,x.1=j
  ·exact y6 h2
  ·have h2':∀ x∈l2,x.1≠j:=fun x hx he=>h2 ⟨x,hx,he⟩
   rw [eY h2',eY h1',eY h2']
theorem aIC {l:List D} {i j:Nat} {a b:D} (h:i≠j):upd (upd l i a) j b=upd (upd l j b) i a:=by
 induction l generalizing i j with
 | nil=>rfl
 | cons d l ih =>
  cases i with
  | zero=>cases j with
   | zero=>exact absurd rfl h
   | succ j=>rfl
  | succ i=>cases j with
   | zero=>rfl
   | succ j =>
    have:i≠j:=fun e=>h (e ▸ rfl)
    simp only [upd,ih this]
theorem jR {a b:List Nat} (h:mC a b=false) {i:Nat} (ha:i∈a) (hb:i∈b):False:=by
 unfold mC at h
 have:=List.any_eq_false.1 h i ha
 have h2:=fun hh=>this hh
 apply h2
 rw [List.any_eq_true]
 exact ⟨i,hb,by simp⟩
structure Apart (a b:AO):Prop where
 wa:o9 a.op=false
 wb:o9 b.op=false
 wr:mC a.writes b.reads=false
 ww:mC a.writes b.writes=false
 rw:mC a.reads b.writes=false
 calls:(eS a.op&&eS b.op)=false
 apps:(jB a.op&&jB b.op)=false
 kinds:s9 a.op=true∨s9 b.op=true∨(kA a.op a.id=false∧kA b.op b.id=false)
theorem uW {a b:AO} (h:yE a b=true):Apart a b:=by
 unfold yE at h
 simp only [Bool.and_eq_true,Bool.not_eq_true',Bool.or_eq_true] at h
 obtain ⟨⟨⟨⟨⟨⟨⟨ha,hb⟩,h1⟩,h2⟩,h3⟩,h4⟩,h5⟩,h6⟩:=h
 refine ⟨ha,hb,h1,h2,h3,h4,h5,?_⟩
 rcases h6 with (h6 | h6) | h6
 ·exact .inl h6
 ·exact .inr (.inl h6)
 ·exact .inr (.inr h6)
theorem pM {dst:Option Nat} {v:D} {fr:List D}:∀ {xs:List AX},(∀ d,dst=some d→d ∉ AX.slots xs)→evs (fI dst v fr) xs=evs fr xs
 | [],_=>rfl
 | .c d::xs,h=>by
  simp only [evs]
  rw [pM (xs:=xs) (fun d' hd=>h d' hd)]
  rfl
 | .t i::xs,h=>by
  simp only [evs]
  rw [pM (xs:=xs) (fun d hd hm=>h d hd (by simp [AX.slots,hm]))]
  congr 1
  simp only [AX.ev]
  cases dst with
  | none=>rfl
  | some d =>
   have:d≠i:=fun e=>h d rfl (by simp [AX.slots,e])
   simp only [fI,fN]
   rw [if_neg (fun hh=>this hh.1)]
theorem aBC (o:AO):(∀ i,i∈AX.slots o.args→i∈o.reads)∧∀ j w,o.guard=some (j,w)→j∈o.reads:=by
 unfold AO.reads
 cases hg:o.guard with
 | none=>exact ⟨fun i hi=>hi,fun j w h=>by cases h⟩
 | some jw =>
  obtain ⟨j,w⟩:=jw
  exact ⟨fun i hi=>List.mem_cons_of_mem _ hi,fun j' w' h=>by cases h; simp⟩
theorem x8 (h:Apart q p) (vq:D) (uq:Upd):evs (s.next q.dst vq uq).fr p.args=evs s.fr p.args∧sX p (s.next q.dst vq uq).fr=sX p s.fr:=by
 have hw:∀ d,q.dst=some d→d∈q.writes:=fun d hd=>by simp [AO.writes,hd]
 refine ⟨pM fun d hd hm=>jR h.wr (hw d hd) ((aBC p).1 d hm),?_⟩
 unfold sX
 cases hg:p.guard with
 | none=>rfl
 | some jw =>
  obtain ⟨j,w⟩:=jw
  have hj:=(aBC p).2 j w hg
  simp only [St.next]
  cases hd:q.dst with
  | none=>rfl
  | some d =>
   have:d≠j:=fun e=>jR h.wr (hw d hd) (e ▸ hj)
   simp only [fI,fN]
   rw [if_neg (fun hh=>this hh.1)]
theorem Apart.symm (h:Apart q p):Apart p q:=by
 have mc:∀ {a b:List Nat},mC a b=false→mC b a=false:=by
  intro a b h
  cases hh:mC b a with
  | false=>rfl
  | true =>
   unfold mC at hh
   rw [List.any_eq_true] at hh
   obtain ⟨i,hi,h2⟩:=hh
   rw [List.any_eq_true] at h2
   obtain ⟨j,hj,h3⟩:=h2
   simp only [beq_iff_eq] at h3
   subst h3
   exact (jR h hj hi).elim
 refine ⟨h.wb,h.wa,mc h.rw,mc h.ww,mc h.wr,by rw [Bool.and_comm]; exact h.calls,by rw [Bool.and_comm]; exact h.apps,?_⟩
 rcases h.kinds with h1 | h1 | ⟨h1,h2⟩
 ·exact .inr (.inl h1)
 ·exact .inl h1
 ·exact .inr (.inr ⟨h2,h1⟩)
theorem s5 {op:AOp} (h:o9 op=false):jE op=false:=by cases op <;> first | rfl | cases h
theorem rE {lo hi j:Nat} (h:(Nat.ble lo j&&Nat.blt j hi)=false) (h1:lo≤j) (h2:j < hi):False:=bC h ⟨h1,h2⟩
theorem aBH (h:Apart q p) (hax:p.args.all mH=true) (tq:Tidy q.id (q.id+bF q.op) s) {u:Upd} (hk:Keys q.op q.id s.tk u):Alike' p.op (evs s.fr p.args) s.hp (bX s.hp u.h) s.tk (cF s.tk u.t):=by
 refine ⟨h.wb,?_⟩
 rcases h.kinds with h1 | h1 | ⟨h1,h2⟩
 ·rw [hk.q h1]
  exact .inr (.inl ⟨rfl,rfl⟩)
 ·exact .inl h1
 ·refine .inr (.inr ⟨s8 h2,fun d hm i hi=>?_,fun happ i z n g hm=>?_⟩)
  ·have hn:=aED hi (uE tq hax _ hm).1
   rw [gC]
   rintro x hx rfl
   have:=hk.h h1 x hx
   exact rE hn this.1 this.2
  ·have hn:=(uE tq hax _ hm).1
   rw [eY]
   rintro x hx rfl
   rcases hk.t x hx with h3 | ⟨h3,_⟩
   ·exact rE hn h3.1 h3.2
   ·rcases h3 with h3 | h3
    ·have:=h.apps
     rw [h3,happ] at this
     cases this
    ·rw [h1] at h3
     cases h3
theorem Alike'.symm {op:AOp} {args:List D} {hp hp':Nat→Option (Bool×List D)} {tk tk':Nat→Option (Nat×Nat)} (h:Alike' op args hp hp' tk tk'):Alike' op args hp' hp tk' tk:=by
 obtain ⟨hw,h⟩:=h
 refine ⟨hw,?_⟩
 rcases h with h | ⟨h1,h2⟩ | ⟨h1,h2,h3⟩
 ·exact .inl h
 ·exact .inr (.inl ⟨h1.symm,h2.symm⟩)
 ·exact .inr (.inr ⟨h1,fun d hm i hi=>(h2 d hm i hi).symm,fun ha i z n g hm=>(h3 ha i z n g hm).symm⟩)
theorem aF3 (h:Apart q p) (tq:Tidy q.id (q.id+bF q.op) s) (tp:Tidy p.id (p.id+bF p.op) s) (hdis:q.id+bF q.op≤p.id∨p.id+bF p.op≤q.id) {vq vp:D} {uq up:Upd} (kq:Keys q.op q.id s.tk uq) (kp:Keys p.op p.id s.tk up) :
  (s.next q.dst vq uq).next p.dst vp up=(s.next p.dst vp up).next q.dst vq uq:=by
 unfold St.next
 simp only [St.mk.injEq]
 refine ⟨?_,?_,?_⟩
 ·cases hq:q.dst with
  | none=>rfl
  | some d =>
   cases hp:p.dst with
   | none=>rfl
   | some e =>
    have:d≠e:=fun he=>jR h.ww (i:=d) (by simp [AO.writes,hq]) (by simp [AO.writes,hp,he])
    exact aIC this
 ·rcases h.kinds with h1 | h1 | ⟨h1,h2⟩
  ·rw [kq.q h1]; rfl
  ·rw [kp.q h1]; rfl
  ·refine aGK fun x hx y hy he=>?_
   have e1:=kq.h h1 x hx
   have e2:=kp.h h2 y hy
   omega
 ·refine aF0 fun x hx y hy he=>?_
  rcases kq.t x hx with e1 | ⟨e1,e2⟩
  ·rcases kp.t y hy with e3 | ⟨e3,e4⟩
   ·omega
   ·cases hx':s.tk y.1 with
    | none=>exact e4 hx'
    | some e =>
     have:=tq.tk _ _ hx'
     omega
  ·rcases kp.t y hy with e3 | ⟨e3,e4⟩
   ·cases hx':s.tk x.1 with
    | none=>exact e2 hx'
    | some e =>
     have:=tp.tk _ _ hx'
     omega
   ·rcases h.kinds with h1 | h1 | ⟨h1,h2⟩
    ·rw [kq.q h1] at hx
     cases hx
    ·rw [kp.q h1] at hy
     cases hy
    ·rcases e1 with e1 | e1
     ·rcases e3 with e3 | e3
      ·have:=h.apps
       rw [e1,e3] at this
       cases this
      ·rw [h2] at e3
       cases e3
     ·rw [h1] at e1
      cases e1
theorem swap (hE:fU E) (h:Apart q p) (okq:jO q.op=true) (axq:q.args.all mH=true) (okp:jO p.op=true) (axp:p.args.all mH=true) (tq:Tidy q.id (q.id+bF q.op) s) (tp:Tidy p.id (p.id+bF p.op) s)
  (hdis:q.id+bF q.op≤p.id∨p.id+bF p.op≤q.id) {K:St→Prop} (hh:gOp E q s (fun s1=>gOp E p s1 K)):gOp E p s (fun s1=>gOp E q s1 K):=by
 rw [hY] at hh
 have h1:=lR hE okq axq hh
 have h2:jP E q s.hp s.tk (evs s.fr q.args) (sX q s.fr) (fun vq uq=>jP E p s.hp s.tk (evs s.fr p.args) (sX p s.fr) (fun vp up=>(K ((s.next q.dst vq uq).next p.dst vp up)∧aBV p s vp up)∧aBV q s vq uq)):=by
  refine fZ hE (fun vq uq hk=>?_) h1
  obtain ⟨hk,ha⟩:=hk
  rw [hY] at hk
  obtain ⟨e1,e2⟩:=x8 (s:=s) h vq uq
  rw [e1,e2] at hk
  have hk:=vE ((aBH h axp tq ha.1).symm) hk
  exact fZ hE (fun vp up h3=>⟨h3,ha⟩) (lR hE okp axp hk)
 have h3:=lR hE okp axp (aIL hE h.calls (s5 h.wa) (s5 h.wb) h2)
 rw [hY]
 refine fZ hE (fun vp up hk=>?_) h3
 obtain ⟨hk,ha⟩:=hk
 rw [hY]
 obtain ⟨e1,e2⟩:=x8 (s:=s) h.symm vp up
 rw [e1,e2]
 refine vE (aBH h.symm axq tp ha.1) (fZ hE (fun vq uq h4=>?_) hk)
 rw [← aF3 h tq tp hdis h4.2.1 h4.1.2.1]
 exact h4.1.1
theorem qE (hE:fU E) {K K':St→Prop} (h:∀ s',K s'→K' s') (hk:gOp E o s K):gOp E o s K':=by
 rw [hY] at hk ⊢
 exact fZ hE (fun v u h1=>h _ h1) hk
theorem t8 (hE:fU E) (hok:jO o.op=true) (hax:o.args.all mH=true) {K:St→Prop} (hk:gOp E o s K):gOp E o s (fun s'=>K s'∧∀ lo hi,Tidy lo hi s→(o.id+bF o.op≤lo∨hi≤o.id)→Tidy lo hi s'):=by
 rw [hY] at hk ⊢
 exact fZ hE (fun v u h1=>⟨h1.1,h1.2.2⟩) (lR hE hok hax hk)
theorem nX (hE:fU E):∀ {l:List AO} {s:St} {K K':St→Prop},(∀ s',K s'→K' s')→l9 E l s K→l9 E l s K'
 | [],_,_,_,h,hk=>h _ hk
 | o::l,s,K,K',h,hk=>qE hE (fun s' h1=>nX hE h h1) hk
def Dis (a b:AO):Prop:=a.id+bF a.op≤b.id∨b.id+bF b.op≤a.id
theorem aHY (hE:fU E) (okp:jO p.op=true) (axp:p.args.all mH=true):∀ {l1 l2:List AO} {s:St} {K:St→Prop},(∀ q∈l1,Apart q p∧jO q.op=true∧q.args.all mH=true∧Dis q p)→l1.Pairwise Dis→Tidy p.id (p.id+bF p.op) s →
  (∀ q∈l1,Tidy q.id (q.id+bF q.op) s)→l9 E (l1++p::l2) s K→gOp E p s (fun s1=>l9 E (l1++l2) s1 K)
 | [],l2,s,K,_,_,_,_,hk=>hk
 | q::l1,l2,s,K,h,hd,tp,tq,hk=>by
  obtain ⟨h1,h2,h3,h4⟩:=h q (by simp)
  have hd':=List.pairwise_cons.1 hd
  have e1:gOp E q s (fun s1=>gOp E p s1 (fun s2=>l9 E (l1++l2) s2 K)):=by
   refine qE hE (fun s1 hs=>?_) (t8 hE h2 h3 hk)
   obtain ⟨hs1,hs2⟩:=hs
   refine aHY hE okp axp (fun q' hq'=>h q' (List.mem_cons_of_mem _ hq')) hd'.2 (hs2 _ _ tp h4) (fun q' hq'=>?_) hs1
   exact hs2 _ _ (tq q' (List.mem_cons_of_mem _ hq')) (hd'.1 q' hq')
  exact swap hE h1 h2 h3 okp axp (tq q (by simp)) tp h4 e1
end
section
variable {P:Program} {F:Nat→FuncId} {B np:Nat} {w0 w w':World} {ext:List Nat} {σ0:Og} {G G':Gh} {s:St} {a:Act} {ft:FT} {lo hi:Nat} {E:Env}
theorem EnvOk.mf (h:EnvOk P F E):fU E:=fun j C hj=>⟨(h.2 j C hj).mono,(h.2 j C hj).feas⟩
structure AOR (P:Program) (ft:FT) (np:Nat) (ops:Array Oper) (o:Oper) (ao:AO):Prop where
 tr:aDE P ft np o=some (ao.op,ao.args)
 dst:ao.dst=o.dst
 guard:trG ops o.guard=some ao.guard
 ok:jO ao.op=true
 ax:ao.args.all mH=true
theorem jK {ops:Array Oper}:∀ {l:List Oper} {at_ n:Nat} {ays:List AO},wD P ft np ops l at_=some (ays,n)→l.length=ays.length∧at_≤n ∧
  (∀ (i:Nat) (o:Oper) (ao:AO),l[i]? = some o→ays[i]? = some ao→AOR P ft np ops o ao∧at_≤ao.id∧ao.id+bF ao.op≤n)∧ays.Pairwise fun x y=>x.id+bF x.op≤y.id
 | [],at_,n,ays,h=>by
  simp only [wD,Option.some.injEq,Prod.mk.injEq] at h
  obtain ⟨rfl,rfl⟩:=h
  exact ⟨rfl,Nat.le_refl _,fun i o ao h=>by simp at h,List.Pairwise.nil⟩
 | o::l,at_,n,ays,h=>by
  simp only [wD] at h
  split at h
  ·rename_i ap xs g h1 h2
   cases hb:(jO ap&&xs.all mH) with
   | false=>rw [hb] at h; cases h
   | true =>
    rw [hb] at h
    simp only [cond_true] at h
    split at h
    ·rename_i as' n' h3
     cases h
     obtain ⟨e1,e2,e3,e4⟩:=jK h3
     simp only [Bool.and_eq_true] at hb
     refine ⟨by simp [e1],by omega,fun i o' ao hi ha=>?_,List.pairwise_cons.2 ⟨fun x hx=>?_,e4⟩⟩
     ·cases i with
      | zero =>
       simp only [List.getElem?_cons_zero,Option.some.injEq] at hi ha
       subst hi ha
       exact ⟨⟨h1,rfl,h2,hb.1,hb.2⟩,Nat.le_refl _,e2⟩
      | succ i =>
       obtain ⟨e5,e6,e7⟩:=e3 i o' ao (by simpa using hi) (by simpa using ha)
       exact ⟨e5,by omega,e7⟩
     ·obtain ⟨j,hj,rfl⟩:=List.mem_iff_getElem.1 hx
      have hj':j < l.length:=by omega
      exact (e3 j l[j] as'[j] (List.getElem?_eq_getElem hj') (List.getElem?_eq_getElem hj)).2.1
    ·cases h
  ·cases h
theorem aLV (hE:EnvOk P F E) (hft:pC P F ft) (r:Rel F B np w0 ext σ0 G s a w) {ops:Array Oper} {o:Oper} {ao:AO} (hao:AOR P ft np ops o ao) (hnp:np≤ao.id) (hcl:Clean ao.id (ao.id+bF ao.op) s) {K:St→Prop} (h:gOp E ao s K)
  {next:Act→World→Prop} {Q:Exit→Act→World→Prop} (hn:∀ s' a' w' G',K s'→Rel F B np w0 ext σ0 G' s' a' w'→(∀ lo hi,Clean lo hi s→(ao.id+bF ao.op≤lo∨hi≤ao.id)→Clean lo hi s')→next a' w') :
  if Region.wanted o (yielded ops a.tmps) then o.wp P a w next Q else next (a.put o.dst undef) w:=by
 rw [hY] at h
 have run:step E ao.op ao.id s.hp s.tk (evs s.fr ao.args) (fun v u=>K (s.next ao.dst v u))→o.wp P a w next Q:=fun hs =>
  aKA hE hft r hao.tr hao.ok hao.ax hnp hcl hs fun v u v' G' w' hk r' hc=>hn _ _ w' G' (hao.dst ▸ hk) r' hc
 unfold jP at h
 have hg:=hao.guard
 unfold trG at hg
 cases hog:o.guard with
 | none =>
  rw [hog] at hg
  simp only [Option.some.injEq] at hg
  rw [← hg] at h
  have:Region.wanted o (yielded ops a.tmps)=true:=by simp [Region.wanted,hog]
  rw [if_pos this]
  exact run h
 | some jw =>
  obtain ⟨j,wt⟩:=jw
  rw [hog] at hg
  simp only at hg
  cases hd:(ops[j]?).bind (·.dst) with
  | none=>rw [hd] at hg; cases hg
  | some d =>
   rw [hd] at hg
   simp only [Option.some.injEq] at hg
   rw [← hg] at h
   simp only [sX,← hg] at h
   have skip:K (s.next o.dst (.tup []) Upd.none)→next (a.put o.dst undef) w:=fun h=>by
    have r':=r.put hnp hcl (Keeps.refl _ _ G s.tk) r.mem (Rd.tup #[] [] rfl fun j hj=>by simp at hj) o.dst
    refine hn _ _ w G h r' fun lo hi hc _=>?_
    exact hc.after (v:=.tup []) rfl (fun x hx=>by simp [Upd.none] at hx) (fun x hx=>by simp [Upd.none] at hx) o.dst
   rw [hao.dst] at h
   cases hb:nth s.fr d .dead with
   | bool b =>
    rw [hb] at h
    simp only [gw] at h
    have hdl:d < s.fr.length:=by
     rcases Nat.lt_or_ge d s.fr.length with h1 | h1
     ·exact h1
     ·rw [iE s.fr _ h1] at hb; cases hb
    have hr:=r.slots d hdl
    rw [hb] at hr
    have hv:=hr.bool_inv
    have hy:yielded ops a.tmps j=some b:=by
     have hsz:d < a.tmps.size:=by rw [r.size]; exact hdl
     unfold yielded
     rw [hd]
     have:a.tmps[d]? = some (.bool b):=by
      rw [Array.getElem?_eq_getElem hsz]
      rw [Array.getD_eq_getD_getElem?,Array.getElem?_eq_getElem hsz] at hv
      simpa using hv
     simp [this]
    by_cases hw:b=wt
    ·have e:(b==wt)=true:=by rw [hw]; exact beq_self_eq_true _
     rw [e] at h
     have:Region.wanted o (yielded ops a.tmps)=true:=by simp [Region.wanted,hog,hy,hw]
     rw [if_pos this]
     exact run (hao.dst ▸ h)
    ·have e:(b==wt)=false:=beq_false_of_ne hw
     rw [e] at h
     have:¬(Region.wanted o (yielded ops a.tmps)=true):=by simp [Region.wanted,hog,hy,hw]
     rw [if_neg this]
     exact skip h
   | tup l =>
    cases l with
    | cons x l=>rw [hb] at h; exact h.elim
    | nil =>
     rw [hb] at h
     simp only [gw] at h
     have hdl:d < s.fr.length:=by
      rcases Nat.lt_or_ge d s.fr.length with h1 | h1
      ·exact h1
      ·rw [iE s.fr _ h1] at hb; cases hb
     have hr:=r.slots d hdl
     rw [hb] at hr
     have hv:a.tmps.getD d undef=.tuple #[]:=by
      generalize a.tmps.getD d undef=v at hr
      cases hr with
      | any hr=>cases hr with
       | cell hr=>cases hr with
        | pure hr _=>cases hr
      | tup vs l hs _ =>
       have:vs=#[]:=Array.eq_empty_of_size_eq_zero (by simpa using hs)
       rw [this]
     have hy:yielded ops a.tmps j=none:=by
      have hsz:d < a.tmps.size:=by rw [r.size]; exact hdl
      unfold yielded
      rw [hd]
      have:a.tmps[d]? = some (.tuple #[]):=by
       rw [Array.getElem?_eq_getElem hsz]
       rw [Array.getD_eq_getD_getElem?,Array.getElem?_eq_getElem hsz] at hv
       simpa using hv
      simp [this]
     have:¬(Region.wanted o (yielded ops a.tmps)=true):=by simp [Region.wanted,hog,hy]
     rw [if_neg this]
     exact skip h
   | _=>rw [hb] at h; exact h.elim
theorem zN (hE:EnvOk P F E) (hft:pC P F ft) {ops:Array Oper} {A:Nat→AO} (hA:∀ (i:Nat) (o:Oper),ops[i]? = some o→AOR P ft np ops o (A i)) {K:St→Prop} {Q:Exit→Act→World→Prop} :
  ∀ (js:List Nat) {s:St} {a:Act} {w:World} {G:Gh},(∀ j∈js,j < ops.size)→(∀ j∈js,np≤(A j).id)→(js.map A).Pairwise Dis→Rel F B np w0 ext σ0 G s a w→(∀ j∈js,Clean (A j).id ((A j).id+bF (A j).op) s)→l9 E (js.map A) s K →
  (∀ s' a' w' G',K s'→Rel F B np w0 ext σ0 G' s' a' w'→(∀ lo hi,Clean lo hi s→(∀ j∈js,(A j).id+bF (A j).op≤lo∨hi≤(A j).id)→Clean lo hi s')→Q .normal a' w')→wpOps P ops Q js a w
 | [],s,a,w,G,_,_,_,r,_,hk,hn=>hn s a w G hk r fun lo hi hc _=>hc
 | j::js,s,a,w,G,hlt,hnp,hd,r,hcl,hk,hn=>by
  have hj:=hlt j (by simp)
  have ho:ops[j]? = some ops[j]:=Array.getElem?_eq_getElem hj
  rw [List.map_cons] at hd
  have hd':=List.pairwise_cons.1 hd
  have:=aLV (Q:=Q) (next:=wpOps P ops Q js) hE hft r (hA j _ ho) (hnp j (by simp)) (hcl j (by simp)) hk fun s' a' w' G' hk' r' hc =>
   zN hE hft hA js (fun i hi=>hlt i (List.mem_cons_of_mem _ hi)) (fun i hi=>hnp i (List.mem_cons_of_mem _ hi)) hd'.2 r' (fun i hi=>hc _ _ (hcl i (List.mem_cons_of_mem _ hi)) (hd'.1 _ (List.mem_map_of_mem hi))) hk'
    fun s2 a2 w2 G2 hk2 r2 hc2=>hn s2 a2 w2 G2 hk2 r2 fun lo hi h0 hdis=>hc2 lo hi (hc lo hi h0 (hdis j (by simp))) fun i hi=>hdis i (List.mem_cons_of_mem _ hi)
  simp only [wpOps,ho]
  split
  ·rename_i hw
   rw [if_pos hw] at this
   exact .inl this
  ·rename_i hw
   rw [if_neg hw] at this
   exact this
end
section
variable {E:Env} {ops:Array Oper} {A:Nat→AO} {s:St} {K:St→Prop}
def b6 (listed:Array Bool) (i:Nat):Bool:=listed.getD i false
def rem (n:Nat) (listed:Array Bool):List Nat:=(List.range n).filter fun i=>!b6 listed i
def aDL (ops:Array Oper) (listed:Array Bool):Prop:=∀ (j:Nat) (o:Oper),ops[j]? = some o→b6 listed j=true→∀ e∈o.after.toList,Region.binds .any e=true→b6 listed e.on=true
theorem pA {listed:Array Bool} {i j:Nat} (hi:i < listed.size):b6 (listed.setIfInBounds i true) j=(j==i || b6 listed j):=by
 unfold b6
 simp only [Array.getD_eq_getD_getElem?]
 by_cases h:i=j
 ·subst h
  simp [hi]
 ·have:(j==i)=false:=by simp; exact fun h'=>h h'.symm
  rw [Array.getElem?_setIfInBounds_ne h,this]
  rfl
theorem fF {n:Nat} {listed:Array Bool} {i:Nat}:i∈rem n listed↔i < n∧b6 listed i=false:=by
 simp [rem,List.mem_filter]
theorem lK (n:Nat) (listed:Array Bool):(rem n listed).Pairwise (· < ·):=List.Pairwise.filter _ (List.pairwise_lt_range)
theorem qP {n:Nat} {listed:Array Bool} {i:Nat} (hi:i < listed.size):rem n (listed.setIfInBounds i true)=(rem n listed).filter (· != i):=by
 unfold rem
 rw [List.filter_filter]
 congr 1
 funext j
 rw [pA hi]
 cases hji:(j==i) <;> cases hl:b6 listed j <;> simp_all [bne]
theorem p7 {l1 l2:List Nat} {i:Nat} (h:(l1++i::l2).Pairwise (· < ·)):(l1++i::l2).filter (· != i)=l1++l2∧∀ q∈l1,q < i:=by
 rw [List.pairwise_append] at h
 obtain ⟨_,h2,h3⟩:=h
 have h4:=List.pairwise_cons.1 h2
 have e1:∀ q∈l1,q < i:=fun q hq=>h3 q hq i (by simp)
 refine ⟨?_,e1⟩
 rw [List.filter_append,List.filter_cons]
 have f1:l1.filter (· != i)=l1:=List.filter_eq_self.2 fun q hq=>by have:=e1 q hq; simp; omega
 have f2:l2.filter (· != i)=l2:=List.filter_eq_self.2 fun q hq=>by have:=h4.1 q hq; simp; omega
 rw [f1,f2]
 simp
theorem lN {listed:Array Bool} (hc:aDL ops listed):∀ (f i q:Nat) (o:Oper),ops[i]? = some o→(∀ e∈o.after.toList,Region.binds .any e=true→b6 listed e.on=true)→(∀ j,b6 listed j=true→j < ops.size)→jC ops f i q=true→b6 listed q=true
 | 0,i,q,o,_,_,_,h=>by simp [jC] at h
 | f+1,i,q,o,ho,ha,hb,h=>by
  simp only [jC,ho,List.any_eq_true,Bool.and_eq_true,Bool.or_eq_true] at h
  obtain ⟨e,he,h1,h2⟩:=h
  have h3:=ha e he h1
  rcases h2 with h2 | ⟨_,h2⟩
  ·have:e.on=q:=by simpa using h2
   rw [← this]
   exact h3
  ·have hlt:=hb _ h3
   exact lN hc f e.on q ops[e.on] (Array.getElem?_eq_getElem hlt) (hc e.on _ (Array.getElem?_eq_getElem hlt) h3) hb h2
theorem oY:∀ {l:List Oper} {i:Nat},fM l i=true→∀ (j:Nat) (o:Oper),l[j]? = some o→∀ e∈o.after.toList,Region.binds .any e=true→e.on < i+j
 | [],_,_,j,o,h=>by simp at h
 | o'::l,i,hb,j,o,h=>by
  simp only [fM,Bool.and_eq_true,List.all_eq_true] at hb
  cases j with
  | zero =>
   simp only [List.getElem?_cons_zero,Option.some.injEq] at h
   subst h
   intro e he hbi
   have:=hb.1 e he
   rw [hbi] at this
   simpa using this
  | succ j =>
   intro e he hbi
   have:=oY hb.2 j o (by simpa using h) e he hbi
   omega
theorem mA {listed:Array Bool} (hsz:listed.size=ops.size) {i:Nat}:i∈Region.ready .any ops listed↔i∈rem ops.size listed∧∃ o,ops[i]? = some o∧∀ e∈o.after.toList,Region.binds .any e=true→b6 listed e.on=true:=by
 unfold Region.ready
 rw [List.mem_filter,fF,List.mem_range]
 constructor
 ·rintro ⟨h1,h2⟩
  have ho:ops[i]? = some ops[i]:=Array.getElem?_eq_getElem h1
  rw [ho] at h2
  simp only [Option.map_some,Option.getD_some,Bool.and_eq_true,Bool.not_eq_true'] at h2
  have hl:listed[i]? = some listed[i]:=Array.getElem?_eq_getElem (by omega)
  refine ⟨⟨h1,?_⟩,ops[i],ho,fun e he hb=>?_⟩
  ·have:=h2.1
   simp only [Array.getD_eq_getD_getElem?,hl,Option.getD_some] at this
   simp only [b6,Array.getD_eq_getD_getElem?,hl,Option.getD_some]
   exact this
  ·have h3:=Array.all_eq_true_iff_forall_mem.1 h2.2 e (Array.mem_toList_iff.1 he)
   rw [hb] at h3
   simpa [b6] using h3
 ·rintro ⟨⟨h1,h2⟩,o,ho,h3⟩
  have hl:listed[i]? = some listed[i]:=Array.getElem?_eq_getElem (by omega)
  refine ⟨h1,?_⟩
  rw [ho]
  simp only [Option.map_some,Option.getD_some,Bool.and_eq_true,Bool.not_eq_true']
  refine ⟨?_,Array.all_eq_true_iff_forall_mem.2 fun e he=>?_⟩
  ·simp only [b6,Array.getD_eq_getD_getElem?,hl,Option.getD_some] at h2
   simp only [Array.getD_eq_getD_getElem?,hl,Option.getD_some]
   exact h2
  ·cases hb:Region.binds .any e with
   | false=>rfl
   | true=>simpa [b6] using h3 e (Array.mem_toList_iff.2 he) hb
theorem y9 (fuel t:Nat) (listed:Array Bool):Region.linearise.go .any ops (fuel+1) t listed []=match (Region.ready .any ops listed)[t % (Region.ready .any ops listed).length]? with
  | some i=>i::Region.linearise.go .any ops fuel (t / (Region.ready .any ops listed).length) (listed.setIfInBounds i true) []
  | none=>[]:=by
 simp only [Region.linearise.go]
 change (match (Region.ready .any ops listed)[t % (Region.ready .any ops listed).length]? with
   | some i=>Region.linearise.go .any ops fuel (t / (Region.ready .any ops listed).length) (listed.setIfInBounds i true) [i]
   | none=>[].reverse)=_
 split
 ·rw [linearise_go_acc]
  simp
 ·rfl
theorem xU {l:List Nat} {t:Nat} (h:l[t % l.length]? = none):l=[]:=by
 cases l with
 | nil=>rfl
 | cons x xs =>
  have hlt:t % (x::xs).length < (x::xs).length:=Nat.mod_lt _ (by simp)
  rw [List.getElem?_eq_getElem hlt] at h
  cases h
theorem vC {listed:Array Bool} (hsz:listed.size=ops.size) (hb:fM ops.toList 0=true) (h:Region.ready .any ops listed=[]):rem ops.size listed=[]:=by
 cases hr:rem ops.size listed with
 | nil=>rfl
 | cons m l =>
  have hm:m∈rem ops.size listed:=by rw [hr]; simp
  have hlt:=(fF.1 hm).1
  have ho:ops[m]? = some ops[m]:=Array.getElem?_eq_getElem hlt
  have:m∈Region.ready .any ops listed:=(mA hsz).2 ⟨hm,ops[m],ho,fun e he hbi=>by
   have h1:=oY hb m ops[m] (by rw [Array.getElem?_toList]; exact ho) e he hbi
   cases hl:b6 listed e.on with
   | true=>rfl
   | false =>
    have h2:e.on∈rem ops.size listed:=fF.2 ⟨by omega,hl⟩
    have h3:=lK ops.size listed
    rw [hr] at h2 h3
    simp only [List.mem_cons] at h2
    rcases h2 with h2 | h2
    ·omega
    ·have:=(List.pairwise_cons.1 h3).1 _ h2
     omega⟩
  rw [h] at this
  cases this
theorem aEV:∀ (fuel t:Nat) (listed:Array Bool),listed.size=ops.size→(Region.linearise.go .any ops fuel t listed []).Nodup∧∀ j∈Region.linearise.go .any ops fuel t listed [],j∈rem ops.size listed
 | 0,t,listed,_=>by simp [Region.linearise.go]
 | fuel+1,t,listed,hsz=>by
  rw [y9]
  split
  ·rename_i i hi
   have hm:=((mA hsz).1 (List.mem_of_getElem? hi)).1
   have hlt:=(fF.1 hm).1
   obtain ⟨h1,h2⟩:=aEV fuel (t / (Region.ready .any ops listed).length) (listed.setIfInBounds i true) (by simp [hsz])
   have h3:∀ j,j∈rem ops.size (listed.setIfInBounds i true)→j∈rem ops.size listed∧j≠i:=fun j hj=>by
    rw [qP (by omega),List.mem_filter] at hj
    exact ⟨hj.1,by simpa using hj.2⟩
   refine ⟨List.nodup_cons.2 ⟨fun h=>(h3 i (h2 i h)).2 rfl,h1⟩,fun j hj=>?_⟩
   simp only [List.mem_cons] at hj
   rcases hj with rfl | hj
   ·exact hm
   ·exact (h3 j (h2 j hj)).1
  ·simp
theorem aCL (hE:fU E) (hb:fM ops.toList 0=true) (hap:∀ i j,i < j→j < ops.size→Apart (A i) (A j)∨jC ops ops.size j i=true) (hdis:∀ i j,i < j→j < ops.size→Dis (A i) (A j))
  (hok:∀ i,i < ops.size→jO (A i).op=true∧(A i).args.all mH=true):∀ (fuel t:Nat) (listed:Array Bool) (s:St),listed.size=ops.size→aDL ops listed→(rem ops.size listed).length≤fuel →
  (∀ j∈rem ops.size listed,Tidy (A j).id ((A j).id+bF (A j).op) s)→l9 E ((rem ops.size listed).map A) s K→l9 E ((Region.linearise.go .any ops fuel t listed []).map A) s K
 | 0,t,listed,s,hsz,hc,hf,ht,hk=>by
  have:rem ops.size listed=[]:=List.length_eq_zero_iff.1 (by omega)
  rw [this] at hk
  simpa [Region.linearise.go] using hk
 | fuel+1,t,listed,s,hsz,hc,hf,ht,hk=>by
  rw [y9]
  split
  ·rename_i i hi
   obtain ⟨hm,o,ho,hafter⟩:=(mA hsz).1 (List.mem_of_getElem? hi)
   have hlt:=(fF.1 hm).1
   obtain ⟨l1,l2,hL⟩:=List.append_of_mem hm
   have hs:=lK ops.size listed
   rw [hL] at hs
   obtain ⟨hfil,hl1⟩:=p7 hs
   have hset:rem ops.size (listed.setIfInBounds i true)=l1++l2:=by rw [qP (by omega),hL,hfil]
   have hbd:∀ j,b6 listed j=true→j < ops.size:=fun j hj=>by
    rcases Nat.lt_or_ge j ops.size with h | h
    ·exact h
    ·have:listed[j]? = none:=Array.getElem?_eq_none (by omega)
     simp [b6,this] at hj
   have hmem1:∀ q∈l1,q∈rem ops.size listed:=fun q hq=>by rw [hL]; simp [hq]
   have hmem2:∀ q∈l1++l2,q∈rem ops.size listed:=fun q hq=>by
    rw [hL]
    simp only [List.mem_append,List.mem_cons] at hq ⊢
    rcases hq with hq | hq
    ·exact .inl hq
    ·exact .inr (.inr hq)
   have hne:∀ q∈l1++l2,q≠i:=fun q hq=>by
    have:q∈rem ops.size (listed.setIfInBounds i true):=by rw [hset]; exact hq
    rw [qP (by omega),List.mem_filter] at this
    simpa using this.2
   have hpair:(l1++l2).Pairwise (· < ·):=by
    rw [← hset]
    exact lK _ _
   have hD:∀ q j,q≠j→q < ops.size→j < ops.size→Dis (A q) (A j):=fun q j h1 h2 h3=>by
    rcases Nat.lt_or_ge q j with h | h
    ·exact hdis q j h h3
    ·have:=hdis j q (by omega) h2
     exact this.symm
   rw [hL,List.map_append,List.map_cons] at hk
   have hbr:=aHY (p:=A i) hE (hok i hlt).1 (hok i hlt).2 (l1:=l1.map A) (l2:=l2.map A) (s:=s) (K:=K) (fun q hq=>by
    obtain ⟨j,hj,rfl⟩:=List.mem_map.1 hq
    have hjm:=fF.1 (hmem1 j hj)
    refine ⟨?_,(hok j hjm.1).1,(hok j hjm.1).2,hD j i (fun h=>by have:=hl1 j hj; omega) hjm.1 hlt⟩
    rcases hap j i (hl1 j hj) hlt with h | h
    ·exact h
    ·have:=lN hc _ i j o ho hafter hbd h
     rw [hjm.2] at this
     cases this) (by
    refine List.pairwise_map.2 ((List.pairwise_append.1 hpair).1.imp_of_mem fun ha hb' hab=>?_)
    exact hD _ _ (by omega) (fF.1 (hmem1 _ ha)).1 (fF.1 (hmem1 _ hb')).1) (ht i hm) (fun q hq=>by
    obtain ⟨j,hj,rfl⟩:=List.mem_map.1 hq
    exact ht j (hmem1 j hj)) hk
   rw [List.map_cons]
   refine qE hE (fun s1 h1=>?_) (t8 hE (hok i hlt).1 (hok i hlt).2 hbr)
   obtain ⟨h1,h2⟩:=h1
   refine aCL hE hb hap hdis hok fuel _ (listed.setIfInBounds i true) s1 (by simp [hsz]) (fun j o' ho' hj e he hbi=>?_) ?_ (fun j hj=>?_) ?_
   ·rw [pA (by omega)] at hj ⊢
    simp only [Bool.or_eq_true,beq_iff_eq] at hj ⊢
    rcases hj with rfl | hj
    ·rw [ho] at ho'
     cases ho'
     exact .inr (hafter e he hbi)
    ·exact .inr (hc j o' ho' hj e he hbi)
   ·rw [hset]
    rw [hL] at hf
    simp only [List.length_append,List.length_cons] at hf ⊢
    omega
   ·rw [hset] at hj
    exact h2 _ _ (ht j (hmem2 j hj)) (hD i j (fun h=>hne j hj h.symm) hlt (fF.1 (hmem2 j hj)).1)
   ·rw [hset,List.map_append]
    exact h1
  ·rename_i hn
   have:=vC hsz hb (xU hn)
   rw [this] at hk
   exact hk
end
section
variable {P:Program} {F:Nat→FuncId} {B np:Nat} {w0 w w':World} {ext:List Nat} {σ0:Og} {G G':Gh} {s:St} {a:Act} {ft:FT} {lo hi:Nat} {E:Env} {hp hp':Nat→Option (Bool×List D)} {tk tk':Nat→Option (Nat×Nat)}
theorem lY (d:D):d.names 0 0=false:=by
 cases d with
 | agg l=>exact eN fun j _=>bO _
 | tup l=>exact eN fun j _=>bO _
 | slice t z n g=>exact bO (.slice t z n g)
 | ptr j o=>exact bO (.ptr j o)
 | _=>rfl
theorem Mem.restrict (m:Mem F B np w0 ext σ0 G hp tk w) (h1:∀ i e,hp' i=some e→hp i=some e) (h2:∀ i e,tk' i=some e→tk i=some e):Mem F B np w0 ext σ0 G hp' tk' w:=by
 have k:Keeps 0 0 G G tk tk':=⟨SgLe.refl _,fun _ _=>rfl,fun i z m' _ h=>⟨z,m',h2 i _ h,Nat.le_refl _,fun _=>rfl⟩,fun _ _ _ _ e=>e,fun _ x e=>⟨x.ob,e⟩⟩
 have ho:∀ b j,bT G hp' tk' b j→bT G hp tk b j:=by
  intro b j h
  cases j with
  | inl id=>obtain ⟨cs,e1,e2⟩:=h; exact ⟨cs,h1 _ _ e1,e2⟩
  | inr i=>obtain ⟨z,n,c,e1,e2,e3⟩:=h; exact ⟨z,n,c,h2 _ _ e1,e2,e3⟩
 refine ⟨m.stab,m.old,m.os,m.tape,m.output,m.base,m.keep,fun id cs h hna=>?_,fun id fw z n g h=>m.rows id fw z n g (h1 _ _ h),fun id cs h=>m.froz id cs (h1 _ _ h),fun i z n h=>m.toks i z n (h2 _ _ h),fun b j j' h h'=>m.own1 b j j' (ho b j h) (ho b j' h'),fun b j h=>m.own2 b j (ho b j h),fun b r h=>⟨(m.resv b r h).1,fun j hj=>(m.resv b r h).2.1 j (ho b j hj),(m.resv b r h).2.2⟩,fun id x va n ks vs h hx=>m.lins id x va n ks vs (h1 _ _ h) hx,fun b x h=>⟨(m.frn b x h).1,fun j hj=>(m.frn b x h).2.1 j (ho b j hj),(m.frn b x h).2.2⟩,m.omono,m.obs.keep rfl (SgLe.refl _) (fun id cs h _=>h1 _ _ h) (fun _=>.inl rfl) (fun i e h=>.inl (h1 i e h)),fun id x va n ks vs h=>m.mnp id x va n ks vs (h1 _ _ h)⟩
 obtain ⟨o1,e2,e4,e5⟩:=m.vars id cs (h1 _ _ h) hna
 exact ⟨o1,e2,e4.imp fun j v hj hr=>hr.keep k (bO _),e5⟩
theorem qV:∀ {l:List Nat} {i:Nat} {e:Bool×List D},ag (mD hp l) i=some e→hp i=some e
 | [],i,e,h=>by simp [mD,ag] at h
 | j::l,i,e,h=>by
  simp only [mD] at h
  cases hj:hp j with
  | none=>rw [hj] at h; exact qV h
  | some x =>
   rw [hj] at h
   simp only [ag] at h
   cases hb:Nat.beq i j with
   | true =>
    rw [hb] at h
    have:=Nat.eq_of_beq_eq_true hb
    subst this
    rw [hj]
    exact h
   | false=>rw [hb] at h; exact qV h
theorem mP:∀ {l:List Nat} {i:Nat} {e:Nat×Nat},ag (kL tk l) i=some e→tk i=some e
 | [],i,e,h=>by simp [kL,ag] at h
 | j::l,i,e,h=>by
  simp only [kL] at h
  cases hj:tk j with
  | none=>rw [hj] at h; exact mP h
  | some x =>
   rw [hj] at h
   simp only [ag] at h
   cases hb:Nat.beq i j with
   | true =>
    rw [hb] at h
    have:=Nat.eq_of_beq_eq_true hb
    subst this
    rw [hj]
    exact h
   | false=>rw [hb] at h; exact mP h
theorem m6 {α:Type}:∀ {l:List (Nat×α)} {i:Nat} {e:α},ag l i=some e→(i,e)∈l
 | [],_,_,h=>by simp [ag] at h
 | (j,x)::l,i,e,h=>by
  simp only [ag] at h
  cases hb:Nat.beq i j with
  | true =>
   rw [hb] at h
   have:=Nat.eq_of_beq_eq_true hb
   subst this
   cases h
   simp
  | false=>rw [hb] at h; exact List.mem_cons_of_mem _ (m6 h)
theorem iL (ks:List Nat) (fr:List D):(kills ks fr).length=fr.length:=by
 induction ks generalizing fr with
 | nil=>rfl
 | cons i l ih=>simp only [kills,ih,cD]
theorem x6 (ks:List Nat) (fr:List D) (j:Nat):nth (kills ks fr) j .dead=nth fr j .dead∨nth (kills ks fr) j .dead=.dead:=by
 induction ks generalizing fr with
 | nil=>exact .inl rfl
 | cons i l ih =>
  simp only [kills]
  rcases ih (upd fr i .dead) with h | h
  ·rw [h,fN]
   split
   ·exact .inr rfl
   ·exact .inl rfl
  ·exact .inr h
theorem uK {l:List (Nat×Bool×List D)} (h:iX lo hi l=false):∀ x∈l,¬(lo≤x.1∧x.1 < hi)∧names lo hi x.2.2=false:=by
 induction l with
 | nil=>simp
 | cons e l ih =>
  obtain ⟨i,f,cs⟩:=e
  simp only [iX] at h
  cases h1:(Nat.ble lo i&&Nat.blt i hi) with
  | true=>rw [h1] at h; cases h
  | false =>
   rw [h1] at h
   cases h2:names lo hi cs with
   | true=>rw [h2] at h; cases h
   | false =>
    rw [h2] at h
    intro x hx
    simp only [List.mem_cons] at hx
    rcases hx with rfl | hx
    ·exact ⟨bC h1,h2⟩
    ·exact ih h x hx
theorem wP {l:List (Nat×Nat×Nat)} (h:jI lo hi l=false):∀ x∈l,¬(lo≤x.1∧x.1 < hi):=by
 induction l with
 | nil=>simp
 | cons e l ih =>
  obtain ⟨i,f⟩:=e
  simp only [jI] at h
  cases h1:(Nat.ble lo i&&Nat.blt i hi) with
  | true=>rw [h1] at h; cases h
  | false =>
   rw [h1] at h
   intro x hx
   simp only [List.mem_cons] at hx
   rcases hx with rfl | hx
   ·exact bC h1
   ·exact ih h x hx
theorem cY {d:D} {mid h:Nat} (h1:d.names1 lo mid=false) (h2:d.names1 mid h=false):d.names1 lo h=false:=by
 cases d with
 | ptr j o =>
  have e1:=bC h1
  have e2:=bC h2
  exact aT (by omega)
 | mref j =>
  have e1:=bC h1
  have e2:=bC h2
  exact aT (by omega)
 | msl j z n =>
  have e1:=bC h1
  have e2:=bC h2
  exact aT (by omega)
 | rptr j z n i o =>
  have e1:=bC h1
  have e2:=bC h2
  exact aT (by omega)
 | oref j _ _ =>
  have e1:=bC h1
  have e2:=bC h2
  exact aT (by omega)
 | oagg j _ _ _ =>
  have e1:=bC h1
  have e2:=bC h2
  exact aT (by omega)
 | osl j _ _ =>
  have e1:=bC h1
  have e2:=bC h2
  exact aT (by omega)
 | mit j _ _ _ _ _ =>
  have e1:=bC h1
  have e2:=bC h2
  exact aT (by omega)
 | kseq _ j _ _ =>
  have e1:=bC h1
  have e2:=bC h2
  exact aT (by omega)
 | slice t z n g =>
  cases t with
  | own j =>
   have e1:=bC h1
   have e2:=bC h2
   exact aT (by omega)
  | _=>rfl
 | _=>rfl
theorem lM {l:List D} {mid h:Nat} (h1:names lo mid l=false) (h2:names mid h l=false):names lo h l=false :=
 aX.2 fun d hd=>cY (aX.1 h1 d hd) (aX.1 h2 d hd)
theorem qX {d:D} {mid h:Nat} (h1:d.names lo mid=false) (h2:d.names mid h=false):d.names lo h=false:=by
 cases d with
 | agg l=>exact lM (l:=l) h1 h2
 | tup l=>exact lM (l:=l) h1 h2
 | ptr j o=>exact cY (d:=.ptr j o) h1 h2
 | slice t z n g=>exact cY (d:=.slice t z n g) h1 h2
 | mref j=>exact cY (d:=.mref j) h1 h2
 | msl j z n=>exact cY (d:=.msl j z n) h1 h2
 | rptr j z n i o=>exact cY (d:=.rptr j z n i o) h1 h2
 | oref j a b=>exact cY (d:=.oref j a b) h1 h2
 | oagg j a b c=>exact cY (d:=.oagg j a b c) h1 h2
 | osl j a b=>exact cY (d:=.osl j a b) h1 h2
 | mit j a b c d e=>exact cY (d:=.mit j a b c d e) h1 h2
 | kseq g j a b=>exact cY (d:=.kseq g j a b) h1 h2
 | _=>rfl
theorem Clean.sub {lo' hi':Nat} (h:Clean lo hi s) (h1:lo≤lo') (h2:hi'≤hi):Clean lo' hi' s :=
 ⟨fun i hi=>sK (h.fr i hi) h1 h2,fun i f cs hx=>⟨fun hh=>(h.hp i f cs hx).1 ⟨by omega,by omega⟩,cZ (h.hp i f cs hx).2 h1 h2⟩,fun i e hx hh=>h.tk i e hx ⟨by omega,by omega⟩⟩
theorem DEq.rp {d d':D} (e:DEq d d'):∀ {σ:Sg} {v:Value},Rp σ v d.pure1→Rp σ v d'.pure1:=by
 induction e with
 | refl d=>exact fun h=>h
 | dead d=>exact fun _=>.dead _
 | slice t t' z n g h ht hl _ ih =>
  intro σ v r
  cases r with
  | slice a _ c _ _ _ b o val h1 h2 h3 h4 h5 =>
   exact .slice a n c .ro z h b o val h1 h2 (fun i hi=>by rw [← hl i hi]; exact h3 i hi) h4 fun i j hi hj=>ih i hi j (h5 i j hi hj)
 | agg l l' _ _ _=>exact fun _=>.dead _
 | eptr l l' _ _ _=>exact fun _=>.dead _
 | fn f l l' _ _ _=>exact fun _=>.dead _
 | mp=>exact fun _=>.dead _
 | newp=>exact fun _=>.dead _
 | arr=>exact fun _=>.dead _
 | obj=>exact fun _=>.dead _
theorem DEq.rp0 {σ:Sg} {v:Value} {d d':D} (e:DEq d d') (r:Rp σ v d):Rp σ v d':=by
 cases e with
 | refl=>exact r
 | dead=>exact .dead _
 | slice t t' z n g h ht hl he =>
  cases r with
  | slice a _ c _ _ _ b o val h1 h2 h3 h4 h5 =>
   exact .slice a n c t' z h b o val h1 h2 (fun i hi=>by rw [← hl i hi]; exact h3 i hi) h4 fun i j hi hj=>(he i hi j).rp (h5 i j hi hj)
 | agg l l' _ _=>cases r
 | eptr l l' _ _=>cases r
 | fn f l l' _ _=>cases r
 | mp=>cases r
 | newp=>cases r
 | arr=>cases r
 | obj=>cases r
theorem DEq.pure {σ:Sg} {v:Value} {d d':D} (e:DEq d d') (r:Rp σ v d) (h:d=d.pure1):d'=d'.pure1:=by
 cases e with
 | refl=>exact h
 | dead=>rfl
 | slice t t' z n g k ht hl he =>
  cases t with
  | ro=>rcases ht with rfl | rfl <;> rfl
  | full=>cases h
  | own i=>cases h
 | agg l l' _ _=>cases r
 | eptr l l' _ _=>cases r
 | fn f l l' _ _=>cases r
 | mp=>cases r
 | newp=>cases r
 | arr=>cases r
 | obj=>cases r
theorem DEq.tag {G:Gh} {tk:Nat→Option (Nat×Nat)} {v:Value} {d d':D} (e:DEq d d') (h:TagR G tk v d):TagR G tk v d':=by
 cases e with
 | refl=>exact h
 | dead=>trivial
 | slice t t' z n g k ht hl he =>
  rcases ht with rfl | rfl
  ·cases t' with
   | ro=>trivial
   | full=>exact h
   | own i=>exact h
  ·trivial
 | agg l l' _ _=>trivial
 | eptr l l' _ _=>trivial
 | fn f l l' _ _=>trivial
 | mp=>trivial
 | newp=>trivial
 | arr=>trivial
 | obj=>trivial
theorem EAt.deq {σ:Sg} {b o:Nat} {l l':List D} (hl:l.length=l'.length) (he:∀ j,DEq (nth l j .dead) (nth l' j .dead)) (h:EAt σ b o l):EAt σ b o l':=fun j hj=>by
 obtain ⟨v,h1,h2⟩:=h j (by omega)
 exact ⟨v,h1,(he j).rp h2⟩
theorem DEq.re {σ:Sg} {v:Value} {d d':D} (e:DEq d d') (r:Re σ v d):Re σ v d':=by
 cases r with
 | pure r h=>exact .pure (e.rp0 r) (e.pure r h)
 | eptr b o l h =>
  cases e with
  | refl=>exact .eptr b o l h
  | dead=>exact .pure (.dead _) rfl
  | eptr _ l' hl he=>exact .eptr b o l' (h.deq hl he)
theorem CellsV.deq {σ:Sg} {va:Bool} {v:Value} {l l':List D} (h:CellsV σ va v l) (e:DEqs l l'):CellsV σ va v l':=by
 rcases h with ⟨h1,cs,h2,h3,h4⟩ | ⟨h1,h2,h3⟩
 ·exact .inl ⟨h1,cs,h2,h3.trans e.1,fun j hj=>(e.2 j).rp (h4 j (by rw [e.1]; exact hj))⟩
 ·exact .inr ⟨h1,by rw [← e.1]; exact h2,(e.2 0).rp h3⟩
theorem DEq.rc {F:Nat→FuncId} {G:Gh} {tk:Nat→Option (Nat×Nat)} {v:Value} {d d':D} (e:DEq d d') (r:Rc F G tk v d):Rc F G tk v d':=by
 cases r with
 | pure r h=>exact .pure (e.rp0 r) (e.tag h)
 | ptr id off =>
  cases e with
  | refl=>exact .ptr id off
  | dead=>exact .pure (.dead _) trivial
 | eptr b o l h =>
  cases e with
  | refl=>exact .eptr b o l h
  | dead=>exact .pure (.dead _) trivial
  | eptr _ l' hl he=>exact .eptr b o l' (h.deq hl he)
 | fn f cap l h1 h2 =>
  cases e with
  | refl=>exact .fn f cap l h1 h2
  | dead=>exact .pure (.dead _) trivial
  | fn _ _ l' hl he=>exact .fn f cap l' (h1.trans hl) fun j hj=>(he j).re (h2 j (by omega))
 | mp vk vv va n ks vs h1 h2 h3 h4 =>
  cases e with
  | refl=>exact .mp vk vv va n ks vs h1 h2 h3 h4
  | dead=>exact .pure (.dead _) trivial
  | mp _ _ _ ks' _ vs' k1 k2 k3=>exact .mp vk vv va n ks' vs' h1 h2 (fun i hi=>by rw [← k1 i hi]; exact h3 i hi) fun i hi=>(h4 i hi).deq ⟨k2 i hi,k3 i hi⟩
theorem DEq.rd {F:Nat→FuncId} {G:Gh} {tk:Nat→Option (Nat×Nat)} {v:Value} {d d':D} (e:DEq d d') (r:Rd F G tk v d):Rd F G tk v d':=by
 cases r with
 | any r =>
  cases r with
  | cell r=>exact .any (.cell (e.rc r))
  | agg cs l h1 h2 =>
   cases e with
   | refl=>exact .any (.agg cs l h1 h2)
   | dead=>exact Rd.dead _
   | agg _ l' hl he=>exact .any (.agg cs l' (h1.trans hl) fun j hj=>(he j).rc (h2 j (by omega)))
 | tup vs l h1 h2 =>
  cases e with
  | refl=>exact .tup vs l h1 h2
  | dead=>exact Rd.dead _
 | mref id =>
  cases e with
  | refl=>exact .mref id
  | dead=>exact Rd.dead _
 | msl id z n a c h1 h2 h3 =>
  cases e with
  | refl=>exact .msl id z n a c h1 h2 h3
  | dead=>exact Rd.dead _
 | rptr id z n i off b c h1 h2 =>
  cases e with
  | refl=>exact .rptr id z n i off b c h1 h2
  | dead=>exact Rd.dead _
 | oref id j b v h1 =>
  cases e with
  | refl=>exact .oref id j b v h1
  | dead=>exact Rd.dead _
 | oagg id off m nl cs h1 h2 =>
  cases e with
  | refl=>exact .oagg id off m nl cs h1 h2
  | dead=>exact Rd.dead _
 | osl id off n c a h1 h2 =>
  cases e with
  | refl=>exact .osl id off n c a h1 h2
  | dead=>exact Rd.dead _
 | kseq g id j b bx mv h1 h2 =>
  cases e with
  | refl=>exact .kseq g id j b bx mv h1 h2
  | dead=>exact Rd.dead _
theorem DEq.names1 {d d':D} (e:DEq d d') {lo hi:Nat} (h:d.names1 lo hi=false):d'.names1 lo hi=false:=by
 cases e with
 | refl=>exact h
 | dead=>rfl
 | slice t t' z n g k ht hl he =>
  rcases ht with rfl | rfl
  ·cases t' <;> exact h
  ·rfl
 | agg=>rfl
 | eptr=>rfl
 | fn=>rfl
 | mp=>rfl
 | newp=>rfl
 | arr=>rfl
 | obj=>rfl
theorem DEqs.names {l l':List D} (e:DEqs l l') {lo hi:Nat} (h:Abs.names lo hi l=false):Abs.names lo hi l'=false :=
 eN fun j hj=>(e.2 j).names1 (dQ h (by rw [e.1]; exact hj))
theorem DEq.names {d d':D} (e:DEq d d') {lo hi:Nat} (h:d.names lo hi=false):d'.names lo hi=false:=by
 cases e with
 | refl=>exact h
 | dead=>rfl
 | slice t t' z n g k ht hl he=>exact DEq.names1 (.slice t t' z n g k ht hl he) h
 | agg l l' hl he=>exact DEqs.names ⟨hl,he⟩ h
 | eptr=>rfl
 | fn=>rfl
 | mp=>rfl
 | newp=>rfl
 | arr=>rfl
 | obj=>rfl
theorem aDT {t' t:Tag} (h:aKH t' t=true):t=t'∨t=.ro:=by
 cases t with
 | ro=>exact .inr rfl
 | full=>cases t' <;> first | exact .inl rfl | cases h
 | own j =>
  cases t' with
  | own i=>exact .inl (by rw [Nat.eq_of_beq_eq_true h])
  | ro=>cases h
  | full=>cases h
theorem b7 {b:Bool} {p:Prop} (h:Br b p False):b=true∧p:=by
 cases b with
 | true=>exact ⟨rfl,h⟩
 | false=>exact h.elim
theorem uN {d d':D} {k:Prop} (h:dI d d' k):DEq d d'∧k:=by
 cases d' with
 | dead=>exact ⟨.dead _,h⟩
 | int kd m =>
  cases d with
  | int kd' n =>
   obtain ⟨h1,rfl,h2⟩:=b7 h
   have:=rY h1
   subst this
   exact ⟨.refl _,h2⟩
  | _=>exact h.elim
 | bool b =>
  cases d with
  | bool b'=>obtain ⟨rfl,h⟩:=h; exact ⟨.refl _,h⟩
  | _=>exact h.elim
 | str b =>
  cases d with
  | str b'=>obtain ⟨rfl,h⟩:=h; exact ⟨.refl _,h⟩
  | _=>exact h.elim
 | slice t z m k' =>
  cases d with
  | slice t' z' n g =>
   obtain ⟨h1,rfl,h2,h3⟩:=b7 h
   rw [Bool.and_eq_true] at h1
   have h4:=Nat.eq_of_beq_eq_true h1.2
   subst h4
   exact ⟨.slice t' t z' n g k' (aDT h1.1) (fun i hi=>(h2 i hi).1) fun i hi=>(h2 i hi).2,h3⟩
  | _=>exact h.elim
 | ptr i o =>
  cases d with
  | ptr i' o' =>
   obtain ⟨h1,h2⟩:=b7 h
   rw [Bool.and_eq_true] at h1
   have h3:=Nat.eq_of_beq_eq_true h1.1
   have h4:=Nat.eq_of_beq_eq_true h1.2
   subst h3 h4
   exact ⟨.refl _,h2⟩
  | _=>exact h.elim
 | eptr l =>
  cases d with
  | eptr l'=>obtain ⟨h1,h⟩:=h; exact ⟨.eptr l' l h1.1 h1.2,h⟩
  | _=>exact h.elim
 | nilp =>
  cases d with
  | nilp=>exact ⟨.refl _,h⟩
  | _=>exact h.elim
 | fn f l =>
  cases d with
  | fn f' l' =>
   obtain ⟨h1,h2,h3⟩:=b7 h
   have h4:=Nat.eq_of_beq_eq_true h1
   subst h4
   exact ⟨.fn f' l' l h2.1 h2.2,h3⟩
  | _=>exact h.elim
 | agg l=>exact h.elim
 | tup l=>exact h.elim
 | ubool=>exact h.elim
 | mref i =>
  cases d with
  | mref i' =>
   obtain ⟨h1,h2⟩:=b7 h
   have h3:=Nat.eq_of_beq_eq_true h1
   subst h3
   exact ⟨.refl _,h2⟩
  | _=>exact h.elim
 | mp va m ks vs =>
  cases d with
  | mp va' n ks' vs' =>
   obtain ⟨h1,rfl,h2,h3,h4⟩:=b7 h
   have h5:=tI h1
   subst h5
   exact ⟨.mp _ _ _ _ _ _ h2 (fun i hi=>(h3 i hi).1) (fun i hi=>(h3 i hi).2),h4⟩
  | _=>exact h.elim
 | newp l =>
  cases d with
  | newp l'=>obtain ⟨h1,h⟩:=h; exact ⟨.newp l' l h1.1 h1.2,h⟩
  | _=>exact h.elim
 | arr w z m k' =>
  cases d with
  | arr w' z' n g =>
   obtain ⟨h1,rfl,h2,h3⟩:=b7 h
   rw [Bool.and_eq_true] at h1
   have h4:=Nat.eq_of_beq_eq_true h1.2
   have h5:=tI h1.1
   subst h4 h5
   exact ⟨.arr _ _ _ g k' (fun i hi=>(h2 i hi).1) fun i hi=>(h2 i hi).2,h3⟩
  | _=>exact h.elim
 | msl i z m =>
  cases d with
  | msl i' z' n =>
   obtain ⟨h1,rfl,h2⟩:=b7 h
   rw [Bool.and_eq_true] at h1
   have h3:=Nat.eq_of_beq_eq_true h1.1
   have h4:=Nat.eq_of_beq_eq_true h1.2
   subst h3 h4
   exact ⟨.refl _,h2⟩
  | _=>exact h.elim
 | rptr i z m e o =>
  cases d with
  | rptr i' z' n e' o' =>
   obtain ⟨h1,rfl,rfl,h2⟩:=b7 h
   rw [Bool.and_eq_true,Bool.and_eq_true] at h1
   have h3:=Nat.eq_of_beq_eq_true h1.1.1
   have h4:=Nat.eq_of_beq_eq_true h1.1.2
   have h5:=Nat.eq_of_beq_eq_true h1.2
   subst h3 h4 h5
   exact ⟨.refl _,h2⟩
  | _=>exact h.elim
 | nilm =>
  cases d with
  | nilm=>exact ⟨.refl _,h⟩
  | _=>exact h.elim
 | oref i j b =>
  cases d with
  | oref i' j' b' =>
   obtain ⟨h1,rfl,rfl,h2⟩:=b7 h
   have h3:=Nat.eq_of_beq_eq_true h1
   subst h3
   exact ⟨.refl _,h2⟩
  | _=>exact h.elim
 | oagg i off m nl =>
  cases d with
  | oagg i' off' m' nl' =>
   obtain ⟨h1,rfl,h2⟩:=b7 h
   rw [Bool.and_eq_true,Bool.and_eq_true] at h1
   have h3:=Nat.eq_of_beq_eq_true h1.1.1
   have h4:=Nat.eq_of_beq_eq_true h1.1.2
   have h5:=Nat.eq_of_beq_eq_true h1.2
   subst h3 h4 h5
   exact ⟨.refl _,h2⟩
  | _=>exact h.elim
 | kseq _ _ _ _=>cases d <;> exact h.elim
 | osl i off m =>
  cases d with
  | osl i' off' m' =>
   obtain ⟨h1,rfl,rfl,h2⟩:=b7 h
   have h3:=Nat.eq_of_beq_eq_true h1
   subst h3
   exact ⟨.refl _,h2⟩
  | _=>exact h.elim
 | mit i j b c s q =>
  cases d with
  | mit i' j' b' c' s' q' =>
   obtain ⟨h1,rfl,rfl,rfl,rfl,rfl,h2⟩:=b7 h
   have h3:=Nat.eq_of_beq_eq_true h1
   subst h3
   exact ⟨.refl _,h2⟩
  | _=>exact h.elim
 | obj m c va nl n ks vs =>
  cases d with
  | obj m' c' va' nl' n' ks' vs' =>
   obtain ⟨h1,rfl,h2,h3,h4,h5⟩:=b7 h
   rw [Bool.and_eq_true] at h1
   have h6:=Nat.eq_of_beq_eq_true h1.1
   have h7:=Nat.eq_of_beq_eq_true h1.2
   subst h6 h7
   exact ⟨.obj _ _ _ _ _ _ _ _ _ _ _ h2 h3 (fun j i hi=>(h4 j i (by rw [← h3]; exact hi)).1) (fun j i hi=>(h4 j i (by rw [← h3]; exact hi)).2.1) (fun j i hi=>(h4 j i (by rw [← h3]; exact hi)).2.2),h5⟩
  | _=>exact h.elim
theorem j4:∀ {l l':List D} {k:Prop},mO l l' k→DEqs l l'∧k
 | [],[],_,h=>⟨DEqs.refl _,h⟩
 | _::_,_::_,_,h =>
  let ⟨h1,h2⟩:=uN h
  let ⟨h3,h4⟩:=j4 h2
  ⟨h3.cons h1,h4⟩
 | [],_::_,_,h=>h.elim
 | _::_,[],_,h=>h.elim
theorem aF1 {d d':D} {k:Prop} (h:aH7 d d' k):DEq d d'∧k:=by
 cases d' with
 | agg l' =>
  cases d with
  | agg l=>obtain ⟨h1,h2⟩:=j4 h; exact ⟨.agg l l' h1.1 h1.2,h2⟩
  | _=>exact h.elim
 | _=>exact uN h
theorem dY:∀ {l l':List D} {k:Prop},oU l l' k→DEqs l l'∧k
 | [],[],_,h=>⟨DEqs.refl _,h⟩
 | _::_,_::_,_,h =>
  let ⟨h1,h2⟩:=aF1 h
  let ⟨h3,h4⟩:=dY h2
  ⟨h3.cons h1,h4⟩
 | [],_::_,_,h=>h.elim
 | _::_,[],_,h=>h.elim
theorem fT:∀ {l l':List (List D)} {k:Prop},s3 l l' k→DEqB l l'∧k
 | [],[],_,h=>⟨.nil,h⟩
 | _::_,_::_,_,h =>
  let ⟨h1,h2⟩:=j4 h
  let ⟨h3,h4⟩:=fT h2
  ⟨.cons h1 h3,h4⟩
 | [],_::_,_,h=>h.elim
 | _::_,[],_,h=>h.elim
theorem aFO {a b:Bool} (h:aIE a b=true):a=b:=by cases a <;> cases b <;> first | rfl | cases h
def Alike2 (cs cs':List D):Prop:=(aI cs=true∧aI cs'=true)∨(r9 cs=true∧r9 cs'=true)∨(aGT cs=true∧aGT cs'=true)∨(cV cs=true∧cV cs'=true)∨(bS cs=true∧bS cs'=true)∨(eF cs=true∧eF cs'=true)
theorem lA {cs:List D} (h:r9 cs=true):∃ s p,cs=[.dead,.str s,.int .i64 p]:=by
 unfold r9 at h
 split at h
 ·exact ⟨_,_,rfl⟩
 ·cases h
theorem yN {ks ks':Nat→ByteArray} (key:ByteArray):∀ {n},(∀ i,i < n→ks i=ks' i)→mpF ks key n=mpF ks' key n
 | 0,_=>rfl
 | n+1,h=>by
  simp only [mpF,yN key (n:=n) fun i hi=>h i (by omega),h n (by omega)]
theorem kX {cs:List D} (h:aGT cs=true):∃ x va n ks vs,cs=[x,.mp va n ks vs]:=by
 unfold aGT at h
 split at h
 ·exact ⟨_,_,_,_,_,rfl⟩
 ·cases h
theorem Alike2.kind {cs cs':List D} (a:Alike2 cs cs'):bS cs=bS cs'∧eF cs=eF cs'∧cV cs=cV cs':=by
 have f:∀ {l l':List D},fH l=false→fH l'=false→bS l=bS l'∧eF l=eF l'∧cV l=cV l':=fun h h'=>by
  rw [bL h,bL h',hT h,hT h',kY h,kY h']
  exact ⟨rfl,rfl,rfl⟩
 rcases a with ⟨a1,a2⟩ | ⟨a1,a2⟩ | ⟨a1,a2⟩ | ⟨a1,a2⟩ | ⟨a1,a2⟩ | ⟨a1,a2⟩
 ·exact f (bW a1) (bW a2)
 ·obtain ⟨_,_,rfl⟩:=lA a1
  obtain ⟨_,_,rfl⟩:=lA a2
  exact ⟨rfl,rfl,rfl⟩
 ·obtain ⟨x,_,_,_,_,rfl⟩:=kX a1
  obtain ⟨y,_,_,_,_,rfl⟩:=kX a2
  exact f (by cases x <;> rfl) (by cases y <;> rfl)
 ·obtain ⟨_,_,_,_,rfl⟩:=dR a1
  obtain ⟨_,_,_,_,rfl⟩:=dR a2
  exact ⟨rfl,rfl,rfl⟩
 ·obtain ⟨_,_,_,_,_,_,_,rfl⟩:=cG a1
  obtain ⟨_,_,_,_,_,_,_,rfl⟩:=cG a2
  exact ⟨rfl,rfl,rfl⟩
 ·obtain ⟨_,_,_,_,_,_,rfl⟩:=fD a1
  obtain ⟨_,_,_,_,_,_,rfl⟩:=fD a2
  exact ⟨rfl,rfl,rfl⟩
theorem Alike2.ap {cs cs':List D} (a:Alike2 cs cs'):fH cs=fH cs':=by
 obtain ⟨h1,h2,h3⟩:=a.kind
 simp only [fH,h1,h2,h3]
theorem DEq.obj_inv {d:D} {m c va:Nat} {nl:Nat→Bool} {n:Nat→Nat} {ks:Nat→Nat→ByteArray} {vs:Nat→Nat→List D} (e:DEq d (.obj m c va nl n ks vs)) :
  ∃ nl' n' ks' vs',d=.obj m c va nl' n' ks' vs'∧(∀ j,nl' j=nl j)∧(∀ j,n' j=n j)∧(∀ j i,i < n' j→ks' j i=ks j i)∧∀ j i,i < n' j→DEqs (vs' j i) (vs j i):=by
 cases e with
 | refl=>exact ⟨_,_,_,_,rfl,fun _=>rfl,fun _=>rfl,fun _ _ _=>rfl,fun _ _ _=>DEqs.refl _⟩
 | obj _ _ _ nl' _ n' _ ks' _ vs' _ h1 h2 h3 h4 h5=>exact ⟨nl',n',ks',vs',rfl,h1,h2,h3,fun j i hi=>⟨h4 j i hi,h5 j i hi⟩⟩
theorem MapR.deq {σ:Sg} {es:Array MapEntry} {va:Bool} {n n':Nat} {ks ks':Nat→ByteArray} {vs vs':Nat→List D} (h:MapR σ es va n ks vs) (hn:n=n') (h1:∀ i,i < n→ks i=ks' i) (h2:∀ i,i < n→DEqs (vs i) (vs' i)):MapR σ es va n' ks' vs':=by
 subst hn
 obtain ⟨h3,h4⟩:=h
 exact ⟨h3,fun i hi=>⟨by rw [(h4 i hi).1,h1 i (by omega)],(h4 i hi).2.deq (h2 i (by omega))⟩⟩
theorem ObjAt.deq {G:Gh} {b m va:Nat} {nl nl':Nat→Bool} {n n':Nat→Nat} {ks ks':Nat→Nat→ByteArray} {vs vs':Nat→Nat→List D} (h:ObjAt G b m va nl' n' ks' vs') (k1:∀ j,nl' j=nl j) (k2:∀ j,n' j=n j) (k3:∀ j i,i < n' j→ks' j i=ks j i)
  (k4:∀ j i,i < n' j→DEqs (vs' j i) (vs j i)):ObjAt G b m va nl n ks vs:=by
 obtain ⟨cs,ty,g1,g2,g3,g0⟩:=h
 refine ⟨cs,ty,g1,g2,fun j=>?_,fun j hj hn x y=>?_⟩
 ·rw [← k1 j]
  rcases g3 j with g4 | ⟨g4,blk,ob,g5,g6,es,ck,rfl,g7,g8,g9⟩
  ·exact .inl g4
  ·exact .inr ⟨g4,blk,_,g5,g6,es,ck,rfl,g7,fun hj=>(g8 hj).deq (k2 j) (fun i hi=>k3 j i hi) (fun i hi=>k4 j i hi),fun hj=>⟨(g9 hj).1,fun x y hxy=>(g9 hj).2 x y (by rw [k1]; exact hxy)⟩⟩
 ·rw [← k1]
  exact g0 j hj (by rw [k1]; exact hn) x y
theorem ObS.retold {G:Gh} {φ0:Nat→Option Fo} (h:ObS np φ0 G hp) (h1:∀ i f cs,hp' i=some (f,cs)→∃ cs',hp i=some (f,cs')∧DEqs cs' cs∧(f=false→Alike2 cs cs')):ObS np φ0 G hp':=by
 have two:∀ {i m c va:Nat} {nl:Nat→Bool} {n:Nat→Nat} {ks:Nat→Nat→ByteArray} {vs:Nat→Nat→List D},hp' i=some (false,[.dead,.obj m c va nl n ks vs])→∃ nl' n' ks' vs',hp i=some (false,[.dead,.obj m c va nl' n' ks' vs']) ∧
   (∀ j,nl' j=nl j)∧(∀ j,n' j=n j)∧(∀ j i,i < n' j→ks' j i=ks j i)∧∀ j i,i < n' j→DEqs (vs' j i) (vs j i):=fun {i m c va nl n ks vs} e=>by
  obtain ⟨cs',e1,d,a⟩:=h1 _ _ _ e
  have h2:=(a rfl).kind.1
  obtain ⟨_,_,_,_,_,_,_,rfl⟩:=cG h2.symm
  obtain ⟨nl',n',ks',vs',h3,h4⟩:=(show DEq _ (.obj m c va nl n ks vs) from d.2 1).obj_inv
  simp only [nth] at h3
  rw [h3] at e1
  exact ⟨nl',n',ks',vs',e1,h4⟩
 refine ⟨h.uniq,h.hdr,fun i i' cs cs' e1 e2 o1 o2 e3=>?_,fun id m c va nl n ks vs e=>?_,fun id i j b c k q e=>?_,fun id m va nl n ks vs hid e=>?_⟩
 ·obtain ⟨c1,e4,_,a1⟩:=h1 _ _ _ e1
  obtain ⟨c2,e5,_,a2⟩:=h1 _ _ _ e2
  rw [(a1 rfl).kind.1,(a1 rfl).kind.2.1] at o1
  rw [(a2 rfl).kind.1,(a2 rfl).kind.2.1] at o2
  exact h.inj i i' c1 c2 e4 e5 o1 o2 e3
 ·obtain ⟨nl',n',ks',vs',e1,k1,k2,k3,k4⟩:=two e
  exact (h.objs _ _ _ _ _ _ _ _ e1).deq k1 k2 k3 k4
 ·obtain ⟨cs',e1,d,a⟩:=h1 _ _ _ e
  have h2:=(a rfl).kind.2.1
  obtain ⟨i0,j0,b0,c0,k0,q0,rfl⟩:=fD h2.symm
  have d1:=d.2 1
  simp only [nth] at d1
  cases d1
  obtain ⟨g1,ob,g2,g3⟩:=h.mits id i j b c k q e1
  refine ⟨fun e2 he2=>?_,ob,g2,?_⟩
  ·obtain ⟨f,cs⟩:=e2
   obtain ⟨cs2,e3,d2,a2⟩:=h1 _ _ _ he2
   obtain ⟨m1,c1,va1,nl1,n1,ks1,vs1,e4,hcc⟩:=g1 _ e3
   cases e4
   have h3:=(a2 rfl).kind.1
   obtain ⟨m3,c3,va3,nl3,n3,ks3,vs3,rfl⟩:=cG h3
   obtain ⟨_,_,_,_,h4,_⟩:=(show DEq (.obj m1 c1 va1 nl1 n1 ks1 vs1) (.obj m3 c3 va3 nl3 n3 ks3 vs3) from d2.2 1).obj_inv
   cases h4
   exact ⟨_,_,_,_,_,_,_,rfl,hcc⟩
  ·rcases g3 with g3 | ⟨g3,blk,ob',since,seen,g4,g5,g6⟩
   ·exact .inl g3
   ·refine .inr ⟨g3,blk,ob',since,seen,g4,g5,fun m va nl n ks vs e2=>?_⟩
    obtain ⟨nl',n',ks',vs',e3,_⟩:=two e2
    exact g6 _ _ _ _ _ _ e3
 ·obtain ⟨nl',n',ks',vs',e3,_⟩:=two e
  exact h.orig _ _ _ _ _ _ _ hid e3
theorem HoldsO.deq {G:Gh} {tk:Nat→Option (Nat×Nat)} {o:Obj} {cs cs':List D} (h:HoldsO F G tk o cs') (d:DEqs cs' cs) (a:Alike2 cs cs'):HoldsO F G tk o cs:=by
 rcases a with ⟨a1,a2⟩ | ⟨a1,a2⟩ | ⟨a1,a2⟩ | ⟨a1,a2⟩ | ⟨a1,a2⟩ | ⟨a1,a2⟩
 ·obtain ⟨c,e,h1,h2,h3⟩:=h.cells a2
  exact .inl ⟨a1,c,e,h1,h2.trans d.1,fun j hj=>(d.2 j).rc (h3 j (by rw [d.1]; exact hj))⟩
 ·obtain ⟨s,p,rfl⟩:=lA a1
  obtain ⟨s',p',rfl⟩:=lA a2
  have e1:=d.2 1
  have e2:=d.2 2
  simp only [nth] at e1 e2
  cases e1
  cases e2
  exact h
 ·obtain ⟨x,va,n,ks,vs,rfl⟩:=kX a1
  obtain ⟨x',va',n',ks',vs',rfl⟩:=kX a2
  rcases h with ⟨h1,_⟩ | ⟨_,_,_,h1⟩ | ⟨es,clock,_,_,_,_,_,h1,h2,h3⟩
  ·cases x' <;> simp [aI] at h1
  ·simp at h1
  ·simp only [List.cons.injEq,D.mp.injEq,and_true] at h2
   obtain ⟨rfl,rfl,rfl,rfl,rfl⟩:=h2
   have e1:=d.2 1
   simp only [nth] at e1
   exact .inr (.inr ⟨es,clock,x,va,n,ks,vs,h1,rfl,e1.rc h3⟩)
 ·obtain ⟨w,z,n,g,rfl⟩:=dR a2
  rcases h.cell with h | ⟨_,_,h⟩ | ⟨_,_,_,_,_,h⟩
  ·simp [aI] at h
  ·simp at h
  ·simp at h
 ·rw [bL h.noArr] at a2
  cases a2
 ·rw [hT h.noArr] at a2
  cases a2
theorem vN {hp:Nat→Option (Bool×List D)}:∀ {l:List (Nat×Bool×List D)} {k:Prop},hpK hp l k→(∀ i f cs,(i,f,cs)∈l→∃ cs',hp i=some (f,cs')∧DEqs cs' cs∧(f=false→Alike2 cs cs'))∧k
 | [],_,h=>⟨fun _ _ _ hm=>by simp at hm,h⟩
 | (i,f,cs)::l,k,h=>by
  simp only [hpK] at h
  split at h
  ·rename_i f' cs' hi
   obtain ⟨h1,h2⟩:=b7 h
   obtain ⟨h3,h4⟩:=j4 h2
   obtain ⟨h5,h6⟩:=vN h4
   rw [Bool.and_eq_true] at h1
   have h7:=aFO h1.2
   subst h7
   refine ⟨fun j g c hm=>?_,h6⟩
   simp only [List.mem_cons] at hm
   rcases hm with hm | hm
   ·cases hm
    exact ⟨cs',hi,h3,fun hf=>by have:=h1.1; rw [hf] at this; simpa [Alike2,or_assoc] using this⟩
   ·exact h5 j g c hm
  ·exact h.elim
theorem wG {tk:Nat→Option (Nat×Nat)}:∀ {l:List (Nat×Nat×Nat)} {k:Prop},tkK tk l k→(∀ i z n,(i,z,n)∈l→tk i=some (z,n))∧k
 | [],_,h=>⟨fun _ _ _ hm=>by simp at hm,h⟩
 | (i,z,n)::l,k,h=>by
  simp only [tkK] at h
  split at h
  ·rename_i z' n' hi
   obtain ⟨h1,rfl,h2⟩:=b7 h
   have h3:=Nat.eq_of_beq_eq_true h1
   subst h3
   obtain ⟨h4,h5⟩:=wG h2
   refine ⟨fun j y m hm=>?_,h5⟩
   simp only [List.mem_cons] at hm
   rcases hm with hm | hm
   ·cases hm; exact hi
   ·exact h4 j y m hm
  ·exact h.elim
theorem RowO.deq {σ:Sg} {o:Obj} {z n c:Nat} {g h:Nat→List D} (r:RowO σ o z n c g) (h1:∀ i,i < n→(g i).length=(h i).length) (h2:∀ i,i < n→∀ j,DEq (nth (g i) j .dead) (nth (h i) j .dead)):RowO σ o z n c h:=by
 obtain ⟨cur,e,e1,e2,e3⟩:=r
 exact ⟨cur,e,e1,e2,fun i hi=>⟨(h1 i hi).symm.trans (e3 i hi).1,fun j hj=>⟨((e3 i hi).2 j hj).1,(h2 i hi j).rp ((e3 i hi).2 j hj).2⟩⟩⟩
theorem DEq.arr_inv {d:D} {w:Bool} {z n:Nat} {h:Nat→List D} (e:DEq d (.arr w z n h)):∃ g,d=.arr w z n g∧(∀ i,i < n→(g i).length=(h i).length)∧∀ i,i < n→∀ j,DEq (nth (g i) j .dead) (nth (h i) j .dead):=by
 cases e with
 | refl=>exact ⟨h,rfl,fun _ _=>rfl,fun _ _ _=>.refl _⟩
 | arr _ _ _ g _ h1 h2=>exact ⟨g,rfl,h1,h2⟩
theorem DEqs.arr_inv {l:List D} {w:Bool} {z n:Nat} {h:Nat→List D} (e:DEqs l [.dead,.arr w z n h]):∃ x g,l=[x,.arr w z n g]∧(∀ i,i < n→(g i).length=(h i).length)∧∀ i,i < n→∀ j,DEq (nth (g i) j .dead) (nth (h i) j .dead):=by
 match l,e with
 | [],e=>exact absurd e.1 (by simp)
 | [_],e=>exact absurd e.1 (by simp)
 | _::_::_::_,e=>exact absurd e.1 (by simp)
 | [x,y],e =>
  obtain ⟨g,h1,h2,h3⟩:=(show DEq y (.arr w z n h) from e.2 1).arr_inv
  exact ⟨x,g,by rw [h1],h2,h3⟩
theorem DEqs.of_arr {l:List D} {w:Bool} {z n:Nat} {g:Nat→List D} (e:DEqs [.dead,.arr w z n g] l):∃ y,l=[.dead,y]∧DEq (.arr w z n g) y:=by
 match l,e with
 | [],e=>exact absurd e.1 (by simp)
 | [_],e=>exact absurd e.1 (by simp)
 | _::_::_::_,e=>exact absurd e.1 (by simp)
 | [x,y],e =>
  have h1:DEq .dead x:=e.2 0
  have:x=.dead:=by cases h1 <;> rfl
  subst this
  exact ⟨y,rfl,e.2 1⟩
theorem Mem.retold (m:Mem F B np w0 ext σ0 G hp tk w) (h1:∀ i f cs,hp' i=some (f,cs)→∃ cs',hp i=some (f,cs')∧DEqs cs' cs∧(f=false→Alike2 cs cs')) (h2:∀ i e,tk' i=some e→tk i=some e):Mem F B np w0 ext σ0 G hp' tk' w:=by
 have k:Keeps 0 0 G G tk tk':=⟨SgLe.refl _,fun _ _=>rfl,fun i z m' _ h=>⟨z,m',h2 i _ h,Nat.le_refl _,fun _=>rfl⟩,fun _ _ _ _ e=>e,fun _ x e=>⟨x.ob,e⟩⟩
 have ho:∀ b j,bT G hp' tk' b j→bT G hp tk b j:=by
  intro b j h
  cases j with
  | inl id =>
   obtain ⟨cs,e1,e2⟩:=h
   obtain ⟨cs',e3,d,a⟩:=h1 _ _ _ e1
   refine ⟨cs',e3,?_⟩
   have e2:Blk G id cs b:=e2
   rcases e2 with ⟨e4,e5⟩ | ⟨w1,z,n,g,c,rfl,e4,e5⟩
   ·refine .inl ⟨?_,e5⟩
    rw [← (a rfl).ap]
    exact e4
   ·obtain ⟨x,g',rfl,_⟩:=d.arr_inv
    ·obtain ⟨_,_,_,_,e6⟩:=dR (a rfl).kind.2.2.symm
     cases e6
     exact .inr ⟨w1,z,n,g',c,rfl,e4,e5⟩
  | inr i=>obtain ⟨z,n,c,e1,e2,e3⟩:=h; exact ⟨z,n,c,h2 _ _ e1,e2,e3⟩
 refine ⟨m.stab,m.old,m.os,m.tape,m.output,m.base,m.keep,fun id cs h hna=>?_,fun id fw z n g h=>?_,fun id cs h j hj=>?_,fun i z n h=>m.toks i z n (h2 _ _ h),fun b j j' h h'=>m.own1 b j j' (ho b j h) (ho b j' h'),fun b j h=>m.own2 b j (ho b j h),fun b r h=>⟨(m.resv b r h).1,fun j hj=>(m.resv b r h).2.1 j (ho b j hj),(m.resv b r h).2.2⟩,fun id x va n ks vs h hx=>?_,fun b x h=>⟨(m.frn b x h).1,fun j hj=>(m.frn b x h).2.1 j (ho b j hj),(m.frn b x h).2.2⟩,m.omono,m.obs.retold h1,fun id x va n ks vs h=>?_⟩
 ·obtain ⟨cs',e0,d,hs⟩:=h1 _ _ _ h
  have hna':fH cs'=false:=by rw [← (hs rfl).ap]; exact hna
  obtain ⟨o,e1,e2,e3⟩:=m.vars id cs' e0 hna'
  exact ⟨o,e1,(e2.imp fun j v _ hr=>hr.keep k (bO _)).deq d (hs rfl),e3⟩
 ·obtain ⟨cs',e0,d,hs⟩:=h1 _ _ _ h
  obtain ⟨x,g',rfl,d1,d2⟩:=d.arr_inv
  have hx:x=.dead:=by
   obtain ⟨_,_,_,_,e6⟩:=dR (hs rfl).kind.2.2.symm
   cases e6
   rfl
  subst hx
  obtain ⟨a1,c,e1,e2⟩:=m.rows id fw z n g' e0
  refine ⟨a1,c,e1,fun b hb hc=>?_⟩
  obtain ⟨e3,o,e4,e5⟩:=e2 b hb hc
  exact ⟨e3,o,e4,e5.deq d1 d2⟩
 ·obtain ⟨cs',e0,d,_⟩:=h1 _ _ _ h
  obtain ⟨v,e1,e2,e3⟩:=m.froz id cs' e0 j (by rw [d.1]; exact hj)
  exact ⟨v,e1,(d.2 j).rp0 e2,(d.2 j).pure e2 e3⟩
 ·obtain ⟨cs',e0,d,hs⟩:=h1 _ _ _ h
  have hmp:∃ x' va' n' ks' vs',cs'=[x',.mp va' n' ks' vs']:=by
   rcases hs rfl with ⟨a1,_⟩ | ⟨a1,_⟩ | ⟨_,a2⟩ | ⟨a1,_⟩ | ⟨a1,_⟩ | ⟨a1,_⟩
   ·cases x <;> cases a1
   ·cases x <;> cases a1
   ·exact kX a2
   ·cases x <;> cases a1
   ·cases x <;> cases a1
   ·cases x <;> cases a1
  obtain ⟨x',va',n',ks',vs',rfl⟩:=hmp
  have d0:DEq x' x:=d.2 0
  have d1:DEq (.mp va' n' ks' vs') (.mp va n ks vs):=d.2 1
  have hx':x'≠.dead:=fun e=>by
   subst e
   cases d0 <;> exact hx rfl
  obtain ⟨⟨h3,h4⟩,es,ck,h5,h6⟩:=m.lins id x' va' n' ks' vs' e0 hx'
  have hxx:x'=x:=by
   rcases h4 with rfl | ⟨k,rfl⟩
   ·cases d0 with
    | refl=>rfl
    | dead=>exact absurd rfl hx
   ·cases d0 with
    | refl=>rfl
    | dead=>exact absurd rfl hx
  subst hxx
  have key:va'=va∧n'=n∧(∀ i,i < n→ks' i=ks i)∧(∀ i,i < n→(vs' i).length=(vs i).length)∧∀ i,i < n→∀ j,DEq (nth (vs' i) j .dead) (nth (vs i) j .dead):=by
   cases d1 with
   | refl=>exact ⟨rfl,rfl,fun _ _=>rfl,fun _ _=>rfl,fun _ _ _=>.refl _⟩
   | mp _ _ _ _ _ _ e1 e2 e3=>exact ⟨rfl,rfl,e1,e2,e3⟩
  obtain ⟨rfl,rfl,k1,k2,k3⟩:=key
  refine ⟨⟨h3,h4⟩,es,ck,h5,fun i hi hk q hq t z len g hg a c hv hlt=>?_⟩
  have k4:=k3 i hi q
  rw [hg] at k4
  obtain ⟨t',g',k5⟩:∃ t' g',nth (vs' i) q .dead=.slice t' z len g':=by
   generalize nth (vs' i) q D.dead=dd at k4
   cases k4 with
   | refl=>exact ⟨_,_,rfl⟩
   | slice=>exact ⟨_,_,rfl⟩
  exact h6 i hi (fun k e=>by rw [yN k k1]; exact hk k e) q (by rw [k2 i hi]; exact hq) t' z len g' k5 a c hv hlt
 ·obtain ⟨cs',e0,d,hs⟩:=h1 _ _ _ h
  rcases hs rfl with ⟨a1,_⟩ | ⟨a1,_⟩ | ⟨_,a2⟩ | ⟨a1,_⟩ | ⟨a1,_⟩ | ⟨a1,_⟩
  ·cases x <;> cases a1
  ·cases x <;> cases a1
  ·obtain ⟨_,_,_,_,_,rfl⟩:=kX a2
   exact m.mnp _ _ _ _ _ _ e0
  ·cases x <;> cases a1
  ·cases x <;> cases a1
  ·cases x <;> cases a1
theorem pN (r:Rel F B np w0 ext σ0 G s a w) {α:Type} {S:α→Tm} {lo hi:Nat} {k:α→Prop} (hk:lP S lo hi s k) :
  ∃ x,k x∧Rel F B np w0 ext σ0 G (xF (S x)) a w∧(∀ l h,Clean l h s→Clean l h (xF (S x)))∧Clean lo hi (xF (S x)):=by
 obtain ⟨x,hk⟩:=hk
 cases hb:(jG lo hi (S x).fr || iX lo hi (S x).hp || jI lo hi (S x).tk) with
 | true=>rw [hb] at hk; exact hk.elim
 | false =>
  rw [hb] at hk
  simp only [Bool.or_eq_false_iff] at hb
  obtain ⟨⟨hb1,hb2⟩,hb3⟩:=hb
  obtain ⟨d,hk⟩:=dY hk
  obtain ⟨hh,hk⟩:=vN hk
  obtain ⟨ht,hk⟩:=wG hk
  have hh':∀ i f cs,ag (S x).hp i=some (f,cs)→∃ cs',s.hp i=some (f,cs')∧DEqs cs' cs∧(f=false→Alike2 cs cs'):=fun i f cs h=>hh i f cs (m6 h)
  have ht':∀ i e,ag (S x).tk i=some e→s.tk i=some e:=fun i e h=>ht i e.1 e.2 (m6 h)
  have kk:Keeps 0 0 G G s.tk (ag (S x).tk):=⟨SgLe.refl _,fun _ _=>rfl,fun i z m' _ h=>⟨z,m',ht' _ _ h,Nat.le_refl _,fun _=>rfl⟩,fun _ _ _ _ e=>e,fun _ x e=>⟨x.ob,e⟩⟩
  refine ⟨x,hk,⟨r.defers,r.size.trans d.1,fun i hi'=>?_,r.mem.retold hh' ht',r.par⟩,fun l h hc=>⟨fun i hi'=>?_,fun i f cs hx=>?_,fun i e hx=>?_⟩,⟨fun i hi'=>uR hb1 hi',fun i f cs hx=>uK hb2 _ (m6 hx),fun i e hx=>wP hb3 _ (m6 hx)⟩⟩
  ·exact (d.2 i).rd ((r.slots i (by rw [d.1]; exact hi')).keep kk (lY _))
  ·exact (d.2 i).names (hc.fr i (by rw [d.1]; exact hi'))
  ·obtain ⟨cs',e1,e2,_⟩:=hh' i f cs hx
   have:=hc.hp i f cs' e1
   exact ⟨this.1,e2.names this.2⟩
  ·exact hc.tk i e (ht' i e hx)
theorem Clean.join {mid h:Nat} (h1:Clean lo mid s) (h2:Clean mid h s):Clean lo h s :=
 ⟨fun i hi=>qX (h1.fr i hi) (h2.fr i hi),fun i f cs hx=>⟨fun hh=>by
  have e1:=(h1.hp i f cs hx).1
  have e2:=(h2.hp i f cs hx).1
  omega,lM (h1.hp i f cs hx).2 (h2.hp i f cs hx).2⟩,fun i e hx hh=>by
  have e1:=h1.tk i e hx
  have e2:=h2.tk i e hx
  omega⟩
theorem sI (r:Rel F B np w0 ext σ0 G s a w) {α:Type} {S:α→Tm} {lo hi:Nat} (hcl:∀ h,Clean hi h s) {k:α→Prop} (hk:lP S lo hi s k) :
  ∃ x,k x∧Rel F B np w0 ext σ0 G (xF (S x)) a w∧∀ h,Clean lo h (xF (S x)):=by
 obtain ⟨x,h1,h2,h3,h4⟩:=pN r hk
 exact ⟨x,h1,h2,fun h=>h4.join (h3 _ _ (hcl h))⟩
theorem jX (lo hi:Nat) (l:List D):(aAD lo hi l).length=l.length:=by
 induction l with
 | nil=>rfl
 | cons d l ih=>simp only [aAD,List.length_cons,ih]
theorem aBL (lo hi:Nat) (l:List D) (j:Nat):nth (aAD lo hi l) j .dead=ro1K lo hi (nth l j .dead):=by
 induction l generalizing j with
 | nil=>rfl
 | cons d l ih=>cases j with
  | zero=>rfl
  | succ j=>exact ih j
theorem Rd.ro1K {G:Gh} {tk:Nat→Option (Nat×Nat)} {v:Value} {d:D} (h:Rd F G tk v d) (lo hi:Nat):Rd F G tk v (ro1K lo hi d):=by
 cases d with
 | slice t z n g =>
  cases t with
  | own i =>
   simp only [Abs.ro1K]
   cases (Nat.ble lo i&&Nat.blt i hi) with
   | true=>exact .any (.cell (.pure (h.slice_inv.1.tag .ro) trivial))
   | false=>exact h
  | _=>exact h
 | _=>exact h
theorem aD1 {d:D} {a b lo hi:Nat} (h:d.names a b=false):(ro1K lo hi d).names a b=false:=by
 cases d with
 | slice t z n g =>
  cases t with
  | own i =>
   simp only [Abs.ro1K]
   cases (Nat.ble lo i&&Nat.blt i hi) with
   | true=>rfl
   | false=>exact h
  | _=>exact h
 | _=>exact h
theorem aA9 (r:Rel F B np w0 ext σ0 G s a w) {kill kh kt:List Nat} {lo hi:Nat} (hcl:∀ h,Clean hi h s) {k:St→Prop} (hk:gV kill kh kt lo hi s k) :
  ∃ s',k s'∧Rel F B np w0 ext σ0 G s' a w∧∀ h,Clean lo h s':=by
 unfold gV at hk
 cases hb:(jG lo hi (aAD lo hi (kills kill s.fr)) || iX lo hi (mD s.hp kh) || jI lo hi (kL s.tk kt)) with
 | true=>rw [hb] at hk; exact hk.elim
 | false =>
  rw [hb] at hk
  simp only [Bool.or_eq_false_iff] at hb
  obtain ⟨⟨hb1,hb2⟩,hb3⟩:=hb
  have kk:Keeps 0 0 G G s.tk (ag (kL s.tk kt)):=⟨SgLe.refl _,fun _ _=>rfl,fun i z m' _ h=>⟨z,m',mP h,Nat.le_refl _,fun _=>rfl⟩,fun _ _ _ _ e=>e,fun _ x e=>⟨x.ob,e⟩⟩
  refine ⟨_,hk,⟨r.defers,by simp only [jX,iL]; exact r.size,fun i hi'=>?_,r.mem.restrict (fun i e h=>qV h) (fun i e h=>mP h),r.par⟩,fun h=>⟨fun i hi'=>?_,fun i f cs hx=>?_,fun i e hx=>?_⟩⟩
  ·simp only [jX,iL] at hi'
   simp only
   rw [aBL]
   rcases x6 kill s.fr i with e | e
   ·rw [e]
    exact Rd.ro1K ((r.slots i hi').keep kk (lY _)) _ _
   ·rw [e]
    exact Rd.dead _
  ·simp only [jX,iL] at hi'
   simp only
   have e1:=uR hb1 (j:=i) (by rw [jX,iL]; exact hi')
   refine qX e1 ?_
   rw [aBL]
   rcases x6 kill s.fr i with e | e
   ·rw [e]; exact aD1 ((hcl h).fr i hi')
   ·rw [e]; rfl
  ·have e1:=uK hb2 _ (m6 hx)
   have e2:=(hcl h).hp i f cs (qV hx)
   refine ⟨fun hh=>?_,lM e1.2 e2.2⟩
   have e3:=e1.1
   have e4:=e2.1
   simp only at e3
   omega
  ·have e1:=wP hb3 _ (m6 hx)
   have e2:=(hcl h).tk i e (mP hx)
   simp only at e1
   omega
def aIM:AE→Exit
 | .normal=>.normal
 | .exit i=>.exit i
 | .ret=>.ret
theorem aBS (p:Nat→Prop) (h:∃ n,p n):∃ n,p n∧∀ m,p m→n≤m:=by
 obtain ⟨n,hn⟩:=h
 induction n using Nat.strongRecOn with
 | _ n ih =>
  by_cases hm:∃ m,m < n∧p m
  ·obtain ⟨m,h1,h2⟩:=hm
   exact ih m h1 h2
  ·exact ⟨n,hn,fun m h=>Nat.le_of_not_lt fun h1=>hm ⟨m,h1,h⟩⟩
theorem xS {c:Code} {Q:Exit→Act→World→Prop} (I:Nat→Act→World→Prop) {n:Nat} (h0:I n a w) (round:∀ n a w,I n a w→c.wp P (Exit.then (fun a' w'=>∃ m,m < n∧I m a' w') Q) a w):(Code.loop c).wp P Q a w:=by
 classical
 let μ:Act→World→Nat:=fun a w=>if h:∃ n,I n a w then Classical.choose (aBS _ h) else 0
 refine wp_loop (fun a w=>∃ n,I n a w) μ ⟨n,h0⟩ fun a w hI=>?_
 have hμ:μ a w=Classical.choose (aBS _ hI):=dif_pos hI
 refine wp_mono (round _ a w (Classical.choose_spec (aBS _ hI)).1) fun e a' w' hq=>?_
 cases e with
 | normal =>
  obtain ⟨m,hm,hI'⟩:=hq
  have hE:∃ n,I n a' w':=⟨m,hI'⟩
  have h1:μ a' w'=Classical.choose (aBS _ hE):=dif_pos hE
  refine ⟨hE,?_⟩
  rw [h1,hμ]
  exact Nat.lt_of_le_of_lt ((Classical.choose_spec (aBS _ hE)).2 m hI') hm
 | exit id=>exact hq
 | goto l=>exact hq
 | ret=>exact hq
 | panic ch=>exact hq
 | outgrown=>exact hq
theorem Clean.up {lo lo':Nat} (h:∀ hi,Clean lo hi s) (h1:lo≤lo'):∀ hi,Clean lo' hi s:=fun hi=>(h hi).sub h1 (Nat.le_refl _)
def aDZ (P:Program) (F:Nat→FuncId) (E:Env) (np:Nat) (c:Code) (x:AC) (lo hi:Nat):Prop :=
 ∀ {B:Nat} {w0:World} {ext:List Nat} {σ0:Og} {G:Gh} {s:St} {a:Act} {w:World} {Q:AE→St→Prop} {Qm:Exit→Act→World→Prop},np≤lo→Rel F B np w0 ext σ0 G s a w→(∀ h,Clean lo h s)→aev E x Q s →
  (∀ e s' a' w' G',Q e s'→Rel F B np w0 ext σ0 G' s' a' w'→(∀ h,Clean hi h s')→Qm (aIM e) a' w')→c.wp P Qm a w
end
section
variable {F:Nat→FuncId} {B np:Nat} {w0 w:World} {ext:List Nat} {σ0:Og} {G:Gh} {s:St} {a:Act} {hp:Nat→Option (Bool×List D)} {tk:Nat→Option (Nat×Nat)}
theorem Mem.addArr (m:Mem F B np w0 ext σ0 G hp tk w) {id z c:Nat} {ad:Option Addr} (hnp:np≤id) (hfree:hp id=none)
  (hblk:0 < c→∃ b cur e,ad=some ⟨b,0,none⟩∧w.heap[b]? = some (.cells cur e (0,0))∧cur.size=c * z∧(∀ o,G.σ b o=none)∧(∀ k,¬bT G hp tk b k)∧B≤b∧G.γ b=none∧G.φ b=none)
  (hcl:∀ id' f cs',hp id'=some (f,cs')→names id (id+1) cs'=false) :
  Mem F B np w0 ext σ0 { G with η:=fun i k=>if i=id then (if k=0 then some (.slice ad 0 c) else none) else G.η i k } (fun j=>bif Nat.beq j id then some (false,[.dead,.arr true z 0 d8]) else hp j) tk w :=
 m.addRow (Nat.zero_le _) hnp hfree (fun hc=>by
  obtain ⟨b,cur,e,h1,h2,h3,h4,h5,h6,h7⟩:=hblk hc
  exact ⟨b,cur,e,h1,h2,h3,h4,h5,h6,h7,fun i hi=>by omega⟩) hcl
theorem Mem.freezeArr (m:Mem F B np w0 ext σ0 G hp tk w) {id z n:Nat} {g:Nat→List D} (h:hp id=some (false,[.dead,.arr true z n g])) :
  ∃ σ' ad c,SgLe G.σ σ'∧G.η id n=some (.slice ad n c)∧Rp σ' (.slice ad n c) (.slice .ro z n g)∧Mem F B np w0 ext σ0 { G with σ:=σ' } (fun j=>bif Nat.beq j id then some (true,[]) else hp j) tk w:=by
 obtain ⟨ad,c,hd,hr⟩:=m.rows id true z n g h
 have hnp:np≤id:=by
  rcases Nat.lt_or_ge id np with h1 | h1
  ·have:=(hd.mine h1).1
   cases this
  ·exact h1
 have howner:∀ b,ad=some ⟨b,0,none⟩→0 < c→bT G hp tk b (.inl id):=fun b hb hc=>⟨_,h,.inr ⟨true,z,n,g,c,rfl,by rw [hd.at_,hb],hc⟩⟩
 -- what is stable now
 obtain ⟨st,bn,hst⟩:∃ (st:Nat→Option Value) (bn:Nat),(0 < c→ad=some ⟨bn,0,none⟩∧∃ cur e,w.heap[bn]? = some (.cells cur e (0,0))∧cur.size=c * z∧(∀ q,G.σ bn q=none)∧(∀ i,i < n→(g i).length=z∧∀ j,j < z→(cur.getD (i * z+j) undef).oneCell'=true∧Rp G.σ (cur.getD (i * z+j) undef) (nth (g i) j .dead).pure1) ∧
   st=fun o=>if o < n * z then cur[o]? else none)∧(c=0→bn=w.heap.size∧st=fun _=>none):=by
  by_cases hc:0 < c
  ·obtain ⟨b,hb⟩:=hd.blk hc
   obtain ⟨h1,o,h2,cur,e,rfl,h3,h4⟩:=hr b hb hc
   exact ⟨_,b,fun _=>⟨hb,cur,e,h2,h3,h1,h4,rfl⟩,fun h=>by omega⟩
  ·exact ⟨fun _=>none,w.heap.size,fun h=>absurd h hc,fun _=>⟨rfl,rfl⟩⟩
 have hno:∀ q,G.σ bn q=none:=by
  intro q
  by_cases hc:0 < c
  ·obtain ⟨_,_,_,_,_,h1,_⟩:=hst.1 hc
   exact h1 q
  ·obtain ⟨rfl,_⟩:=hst.2 (by omega)
   cases hq:G.σ w.heap.size q with
   | none=>rfl
   | some v=>have:=m.lt hq; omega
 have hle:SgLe G.σ (aL G.σ bn st):=by
  intro b o v hv
  unfold aL
  rw [if_neg (fun hbb=>by rw [hbb,hno o] at hv; cases hv)]
  exact hv
 have hown:∀ b k,bT { G with σ:=aL G.σ bn st } (fun j=>bif Nat.beq j id then some (true,[]) else hp j) tk b k→bT G hp tk b k∧k≠.inl id:=by
  intro b k hk
  cases k with
  | inl j =>
   obtain ⟨x,h1,h2⟩:=hk
   rcases aN h1 with ⟨_,hx⟩ | ⟨hj,h3⟩
   ·cases hx
   ·exact ⟨⟨x,h3,h2⟩,fun hh=>hj (Sum.inl.inj hh)⟩
  | inr i=>exact ⟨hk,by simp⟩
 have hne:∀ b k,bT G hp tk b k→k≠.inl id→b≠bn:=by
  intro b k hk hkk hbb
  subst hbb
  by_cases hc:0 < c
  ·exact hkk (m.own1 _ _ _ hk (howner b (hst.1 hc).1 hc))
  ·have:=m.own_lt hk
   have:=(hst.2 (by omega)).1
   omega
 refine ⟨aL G.σ bn st,ad,c,hle,hd.at_,?_,?_⟩
 ·by_cases hc:0 < c
  ·obtain ⟨rfl,cur,e,h1,h2,h3,h4,rfl⟩:=hst.1 hc
   have hnz:n * z≤c * z:=Nat.mul_le_mul_right _ hd.le
   refine .slice _ n c .ro z g bn 0 (fun i j=>cur.getD (i * z+j) undef) hd.le (fun _=>rfl) (fun i hi=>(h4 i hi).1) (fun i j hi hj=>?_) (fun i j hi hj=>((h4 i hi).2 j hj).2.mono hle)
   have:(i+1) * z≤n * z:=Nat.mul_le_mul_right _ hi
   rw [Nat.add_mul] at this
   simp only [aL,if_true,Nat.zero_add]
   rw [if_pos (by omega)]
   have:i * z+j < cur.size:=by omega
   simp [this]
  ·have h1:=hd.le
   have h2:n=0:=by omega
   have h3:c=0:=by omega
   subst h2
   subst h3
   exact .slice ad 0 0 .ro z g 0 0 (fun _ _=>undef) (Nat.le_refl _) (fun h=>absurd rfl h) (fun i hi=>by omega) (fun i j hi=>by omega) (fun i j hi=>by omega)
 ·refine ⟨?_,?_,m.os,m.tape,m.output,m.base,m.keep,?_,?_,?_,?_,?_,?_,?_,?_,?_,m.omono,?_,?_⟩
  ·intro b o v hv
   by_cases hbb:b=bn
   ·subst hbb
    simp only [aL,if_true] at hv
    by_cases hc:0 < c
    ·obtain ⟨_,cur,e,h1,h2,h3,h4,rfl⟩:=hst.1 hc
     simp only at hv
     split at hv
     ·rename_i ho
      have hz:0 < z:=by
       rcases Nat.eq_zero_or_pos z with h0 | h0
       ·subst h0; simp at ho
       ·exact h0
      have hi:o / z < n:=by rw [Nat.div_lt_iff_lt_mul hz]; exact ho
      have h5:=((h4 (o / z) hi).2 (o % z) (Nat.mod_lt _ hz)).1
      rw [show o / z * z+o % z=o from by rw [Nat.mul_comm,Nat.div_add_mod]] at h5
      have h6:cur.getD o undef=v:=by simp [Array.getD_eq_getD_getElem?,hv]
      rw [h6] at h5
      exact ⟨h5,cur,e,(0,0),h1,hv⟩
     ·cases hv
    ·rw [(hst.2 (by omega)).2] at hv
     cases hv
   ·simp only [aL,if_neg hbb] at hv
    exact m.stab b o v hv
  ·intro b o hb'
   simp only [aL]
   have:B≤bn:=by
    by_cases hc:0 < c
    ·rcases m.own2 bn _ (howner bn (hst.1 hc).1 hc) with h1 | ⟨_,id',h1,h2,_⟩
     ·exact h1
     ·simp only [Sum.inl.injEq] at h1
      omega
    ·rw [(hst.2 (by omega)).1]
     exact m.base
   rw [if_neg (by omega)]
   exact m.old b o hb'
  ·intro j x hx hnx
   rcases aN hx with ⟨_,hx'⟩ | ⟨hj,h3⟩
   ·cases hx'
   ·obtain ⟨o',h1,h4,h5⟩:=m.vars j x h3 hnx
    refine ⟨o',h1,h4.imp fun i v hi hr=>hr.more hle,fun o=>?_⟩
    simp only [aL]
    rw [if_neg (hne _ (.inl j) ⟨x,h3,.inl ⟨hnx,rfl⟩⟩ (fun hh=>hj (Sum.inl.inj hh)))]
    exact h5 o
  ·intro j fw z2 n2 g2 hx
   rcases aN hx with ⟨_,hx'⟩ | ⟨hj,h3⟩
   ·cases hx'
   ·obtain ⟨a1,c',h1,h2⟩:=m.rows j fw z2 n2 g2 h3
    refine ⟨a1,c',h1,fun b hb hc=>?_⟩
    obtain ⟨h4,o',h5,h6⟩:=h2 b hb hc
    refine ⟨fun q=>?_,o',h5,h6.mono hle⟩
    simp only [aL]
    rw [if_neg (hne _ (.inl j) ⟨_,h3,.inr ⟨fw,z2,n2,g2,c',rfl,by rw [h1.at_,hb],hc⟩⟩ (fun hh=>hj (Sum.inl.inj hh)))]
    exact h4 q
  ·intro j x hx i hi
   rcases aN hx with ⟨rfl,hx'⟩ | ⟨hj,h3⟩
   ·cases hx'
    simp at hi
   ·obtain ⟨v,h4,h5,h6⟩:=m.froz j x h3 i hi
    exact ⟨v,hle _ _ _ h4,h5.mono hle,h6⟩
  ·intro i z2 n2 hi
   obtain ⟨a1,c',h1,h2,h3⟩:=m.toks i z2 n2 hi
   refine ⟨a1,c',h1,h2,fun hn=>?_⟩
   obtain ⟨b,cur,e',h4,h5,h6,h7⟩:=h3 hn
   refine ⟨b,cur,e',h4,h5,h6,fun o ho=>?_⟩
   simp only [aL]
   rw [if_neg (hne b (.inr i) ⟨z2,n2,c',hi,by rw [h1,h4],hn⟩ (by simp))]
   exact h7 o ho
  ·exact fun b k k' hk hk'=>m.own1 b k k' (hown b k hk).1 (hown b k' hk').1
  ·exact fun b k hk=>m.own2 b k (hown b k hk).1
  ·intro b r hr
   obtain ⟨h1,h2,h3,cur,e,h4,h5⟩:=m.resv b r hr
   have hlt:=(Array.getElem?_eq_some_iff.1 h4).1
   refine ⟨h1,fun k hk=>h2 k (hown b k hk).1,fun o ho=>?_,cur,e,h4,h5⟩
   simp only [aL]
   rw [if_neg (fun hbb=>?_)]
   ·exact h3 o ho
   ·by_cases hc:0 < c
    ·exact h2 _ (hbb ▸ howner bn (hst.1 hc).1 hc)
    ·have:=(hst.2 (by omega)).1
     omega
  ·intro j x va n2 ks vs hx hxd
   rcases aN hx with ⟨_,hx'⟩ | ⟨_,h3⟩
   ·cases hx'
   ·exact m.lins j x va n2 ks vs h3 hxd
  ·intro b x hr
   obtain ⟨h1,h2,h3,h4,h5⟩:=m.frn b x hr
   have hlt:=(Array.getElem?_eq_some_iff.1 h5).1
   refine ⟨h1,fun k hk=>h2 k (hown b k hk).1,fun o=>?_,h4,h5⟩
   simp only [aL]
   rw [if_neg (fun hbb=>?_)]
   ·exact h3 o
   ·by_cases hc:0 < c
    ·exact h2 _ (hbb ▸ howner bn (hst.1 hc).1 hc)
    ·have:=(hst.2 (by omega)).1
     omega
  ·refine m.obs.keep rfl hle (fun j x hx ho=>?_) (fun _=>.inl rfl) fun j e hx=>?_
   ·rcases aN hx with ⟨_,hx'⟩ | ⟨_,h3⟩
    ·cases hx'
    ·exact h3
   ·rcases aN hx with ⟨rfl,_⟩ | ⟨_,h3⟩
    ·exact .inr (.inl ⟨_,h,.inl rfl⟩)
    ·exact .inl h3
  ·intro j x va n2 ks vs hx
   rcases aN hx with ⟨_,hx'⟩ | ⟨_,h3⟩
   ·cases hx'
   ·exact m.mnp j x va n2 ks vs h3
theorem aBZ {l:List D} {t:Nat} {d:D} (h:nth l t .dead=d) (hd:d≠.dead):t < l.length:=by
 rcases Nat.lt_or_ge t l.length with h1 | h1
 ·exact h1
 ·rw [iE l _ h1] at h
  exact absurd h.symm hd
theorem aG8 {n t:Nat} {k:St→Prop} (hnp:np≤n) (r:Rel F B np w0 ext σ0 G s a w) (hcl:∀ h,Clean n h s) (hk:aCR n t s k) :
  ∃ G' s2,k s2∧Rel F B np w0 ext σ0 G' s2 a w∧∀ h,Clean (n+1) h s2:=by
 unfold aCR at hk
 split at hk
 ·rename_i s' hs'
  unfold aEX at hs'
  split at hs'
  ·rename_i j z g hd
   split at hs'
   ·rename_i z' htk
    cases hb:Nat.beq z' z with
    | false=>rw [hb] at hs'; cases hs'
    | true =>
    rw [hb] at hs'
    cases hs'
    have:=Nat.eq_of_beq_eq_true hb
    subst this
    have ht:=aBZ hd (by simp)
    have hslot:=r.slots t ht
    rw [hd] at hslot
    obtain ⟨_,htag⟩:=hslot.slice_inv
    have hv:=(htag z' 0 htk).2 rfl
    obtain ⟨ad,c,hρ,_,htail⟩:=r.mem.toks j z' 0 htk
    rw [hρ] at hv
    have c1:=hcl (n+1)
    have hsub:∀ i e,(bif Nat.beq i j then none else s.tk i)=some e→s.tk i=some e:=by
     intro i e h
     cases hij:Nat.beq i j with
     | true=>rw [hij] at h; cases h
     | false=>rw [hij] at h; exact h
    have m0:=r.mem.restrict (hp':=s.hp) (tk':=fun q=>bif Nat.beq q j then none else s.tk q) (fun _ _ h=>h) hsub
    have hfree:s.hp n=none:=by
     cases hh:s.hp n with
     | none=>rfl
     | some x =>
      have:=(c1.hp n x.1 x.2 hh).1
      omega
    have m1:=m0.addArr (id:=n) (z:=z') (c:=c) (ad:=ad) hnp hfree (fun hc=>by
     obtain ⟨b,cur,e,h1,h2,h3,h4⟩:=htail hc
     have how:bT G s.hp s.tk b (.inr j):=⟨z',0,c,htk,by rw [hρ,h1],hc⟩
     refine ⟨b,cur,e,h1,h2,h3,fun o=>h4 o (by omega),fun k hk=>?_,?_⟩
     ·have hk2:bT G s.hp s.tk b k:=by
       cases k with
       | inl i=>exact hk
       | inr i =>
        obtain ⟨z1,n1,c1,e1,e2,e3⟩:=hk
        exact ⟨z1,n1,c1,hsub _ _ e1,e2,e3⟩
      have:=r.mem.own1 _ _ _ hk2 how
      subst this
      obtain ⟨z1,n1,c1,e1,_⟩:=hk
      simp only [Nat.beq_refl,cond_true] at e1
      cases e1
     ·refine ⟨?_,?_⟩
      ·rcases r.mem.own2 b _ how with h5 | ⟨_,id,h5,_⟩
       ·exact h5
       ·cases h5
      ·refine ⟨?_,?_⟩
       ·cases hg:G.γ b with
        | none=>rfl
        | some r2=>exact absurd how ((r.mem.resv b r2 hg).2.1 _)
       ·cases hg:G.φ b with
        | none=>rfl
        | some x=>exact absurd how ((r.mem.frn b x hg).2.1 _)) (fun id' f cs' h=>(c1.hp id' f cs' h).2)
    have kk:Keeps n (n+1) G { G with η:=fun i k=>if i=n then (if k=0 then some (.slice ad 0 c) else none) else G.η i k } s.tk (fun q=>bif Nat.beq q j then none else s.tk q) :=
     ⟨SgLe.refl _,fun _ _=>rfl,fun i z m _ e=>⟨z,m,hsub _ _ e,Nat.le_refl _,fun _=>rfl⟩,fun i k v hi e=>by simp only; rw [if_neg (by omega)]; exact e,fun _ x e=>⟨x.ob,e⟩⟩
    refine ⟨_,_,hk,⟨r.defers,by simp only [cD]; exact r.size,fun i hi'=>?_,m1,r.par⟩,fun h=>?_⟩
    ·simp only [cD] at hi'
     simp only
     rw [fN]
     by_cases hti:t=i
     ·subst hti
      rw [if_pos ⟨rfl,hi'⟩,hv]
      exact .msl n z' 0 ad c (by simp) (Nat.zero_le _) (fun h=>absurd rfl h)
     ·rw [if_neg (fun h=>hti h.1)]
      exact (r.slots i hi').keep kk (c1.fr i hi')
    ·have c2:=(hcl h).sub (Nat.le_succ n) (Nat.le_refl h)
     refine ⟨fun i hi'=>?_,fun i f cs' hx=>?_,fun i e' hx=>c2.tk i e' (hsub _ _ hx)⟩
     ·simp only [cD] at hi'
      simp only
      rw [fN]
      by_cases hti:t=i
      ·rw [if_pos ⟨hti,hi'⟩]
       exact aT (by omega)
      ·rw [if_neg (fun h=>hti h.1)]
       exact c2.fr i hi'
     ·rcases aN hx with ⟨rfl,hx'⟩ | ⟨_,hx'⟩
      ·cases hx'
       exact ⟨by omega,rfl⟩
      ·exact c2.hp i f cs' hx'
   ·cases hs'
  ·cases hs'
 ·exact hk.elim
theorem aJY {n t:Nat} {k:St→Prop} (r:Rel F B np w0 ext σ0 G s a w) (hcl:∀ h,Clean n h s) (hk:aH4 t s k) :
  ∃ G' s2,k s2∧Rel F B np w0 ext σ0 G' s2 a w∧∀ h,Clean n h s2:=by
 unfold aH4 at hk
 split at hk
 ·rename_i p s' hs'
  obtain ⟨hp',hk⟩:=hk
  unfold aJ1 at hs'
  split at hs'
  ·rename_i i z nn hd
   split at hs'
   ·rename_i z' n' g hi
    cases hb:Nat.beq z' z with
    | false=>rw [hb] at hs'; cases hs'
    | true =>
    rw [hb] at hs'
    simp only [cond_true,Option.some.injEq,Prod.mk.injEq] at hs'
    obtain ⟨e1,rfl⟩:=hs'
    have e1:n'=nn:=by rw [e1]; exact hp'
    subst e1
    have:=Nat.eq_of_beq_eq_true hb
    subst this
    have ht:=aBZ hd (by simp)
    have hslot:=r.slots t ht
    rw [hd] at hslot
    obtain ⟨σ',ad,c,hle,hη,hrp,m1⟩:=r.mem.freezeArr hi
    obtain ⟨ad2,c2,hv,h2,_⟩:=hslot.msl_inv
    rw [hη] at h2
    cases h2
    have kk:Keeps 0 0 G { G with σ:=σ' } s.tk s.tk:=⟨hle,fun _ _=>rfl,fun i z m _ e=>⟨z,m,e,Nat.le_refl _,fun _=>rfl⟩,fun _ _ _ _ e=>e,fun _ x e=>⟨x.ob,e⟩⟩
    refine ⟨_,_,hk,⟨r.defers,by simp only [cD]; exact r.size,fun q hq=>?_,m1,r.par⟩,fun h=>⟨fun q hq=>?_,fun q f cs' hx=>?_,(hcl h).tk⟩⟩
    ·simp only [cD] at hq
     simp only
     rw [fN]
     by_cases hti:t=q
     ·subst hti
      rw [if_pos ⟨rfl,hq⟩,hv]
      exact .any (.cell (.pure hrp trivial))
     ·rw [if_neg (fun h=>hti h.1)]
      exact (r.slots q hq).keep kk (lY _)
    ·simp only [cD] at hq
     simp only
     rw [fN]
     by_cases hti:t=q
     ·rw [if_pos ⟨hti,hq⟩]
      rfl
     ·rw [if_neg (fun h=>hti h.1)]
      exact (hcl h).fr q hq
    ·rcases aN hx with ⟨rfl,hx'⟩ | ⟨_,hx'⟩
     ·cases hx'
      exact ⟨((hcl h).hp _ _ _ hi).1,rfl⟩
     ·exact (hcl h).hp q f cs' hx'
   ·cases hs'
  ·cases hs'
 ·exact hk.elim
theorem u5:∀ {l:List D},zR l=true→aI l=true∧∀ j,j < l.length→nth l j .dead=.nilm
 | [],_=>⟨rfl,fun j hj=>by simp at hj⟩
 | d::l,h=>by
  cases d with
  | nilm =>
   obtain ⟨h1,h2⟩:=u5 (l:=l) h
   refine ⟨h1,fun j hj=>?_⟩
   cases j with
   | zero=>rfl
   | succ j=>exact h2 j (by simpa using hj)
  | _=>cases h
theorem aG0 {n va t:Nat} {k:St→Prop} (r:Rel F B np w0 ext σ0 G s a w) (hcl:∀ h,Clean n h s) (hk:tZ np va t s k) :
  ∃ G' s2,k s2∧Rel F B np w0 ext σ0 G' s2 a w∧∀ h,Clean n h s2:=by
 unfold tZ at hk
 split at hk
 ·rename_i s' hs'
  unfold zJ at hs'
  split at hs'
  ·rename_i id hd
   split at hs'
   ·rename_i cs hid
    cases hb:(zR cs&&Nat.ble np id&&Nat.blt 0 cs.length&&Nat.blt cs.length 100&&Nat.ble (va / 100) cs.length) with
    | false=>rw [hb] at hs'; cases hs'
    | true =>
     rw [hb] at hs'
     cases hs'
     obtain ⟨hb,_⟩:=dV hb
     obtain ⟨hb,hl100⟩:=dV hb
     rw [Nat.blt_eq] at hl100
     obtain ⟨hb,hlen⟩:=dV hb
     obtain ⟨hb,hnp⟩:=dV hb
     have hmod:(cs.length+100 * (va / 100)) % 100=cs.length:=by omega
     have hnp:=Nat.le_of_ble_eq_true hnp
     obtain ⟨hsol,hnil⟩:=u5 hb
     have m:=r.mem
     have hna:=bW hsol
     obtain ⟨o,h1,hh,hσ⟩:=m.vars id cs hid hna
     obtain ⟨c,e,rfl,h2,h3⟩:=hh.cells hsol
     have how:bT G s.hp s.tk (G.β id) (.inl id):=⟨cs,hid,.inl ⟨hna,rfl⟩⟩
     have hφn:G.φ (G.β id)=none:=by
      cases hg:G.φ (G.β id) with
      | none=>rfl
      | some x=>exact absurd how ((m.frn _ x hg).2.1 _)
     have hnoid:∀ b x,G.φ b=some x→x.id≠G.β id:=fun b x hx hh=>by
      obtain ⟨o,g⟩:=m.obs.hdr b x hx
      rw [hh,hφn] at g
      cases g
     have hmono:=eW (φ:=G.φ) (b:=G.β id) (x:=⟨G.β id,0,.cells c e (0,0)⟩) (fun y hy=>by rw [hφn] at hy; cases hy)
     have hiff:=fW (φ:=G.φ) (b:=G.β id) (x:=⟨G.β id,0,.cells c e (0,0)⟩) (fun y hy=>by rw [hφn] at hy; cases hy)
     have m1:=m.foreign (w':=w) (φ':=b8 G.φ (G.β id) ⟨G.β id,0,.cells c e (0,0)⟩) (β':=G.β) (hp':=bX s.hp [(id,false,[.dead,.obj (cs.length+100 * (va / 100)) 0 (va % 100) (fun _=>true) (fun _=>0) (fun _ _=>.empty) (fun _ _=>[])])]) (lo:=0) (hi:=0) rfl rfl rfl (Nat.le_refl _) (fun _ _ _=>rfl) (fun _ _=>rfl) (fun _ _ _ _=>iY _) (fun id' f cs' e1=>by
       rcases aN e1 with ⟨rfl,e2⟩ | ⟨_,e2⟩
       ·cases e2
        exact .inr (.inl ⟨rfl,.inl rfl⟩)
       ·exact .inl ⟨e2,rfl⟩) (fun b x hx=>by
       by_cases hbb:b=G.β id
       ·subst hbb
        rw [bP] at hx
        cases hx
        refine ⟨?_,fun k hk=>⟨id,m.own1 _ _ _ hk how,fun cs2 e2=>?_⟩,hσ,?_,h1⟩
        ·rcases m.own2 _ _ how with g | ⟨_,id',g4,g5,_⟩
         ·exact .inl g
         ·cases g4
          omega
        ·simp only [bX,Nat.beq_refl,cond_true,Option.some.injEq,Prod.mk.injEq] at e2
         rw [← e2.2]
         rfl
        ·cases hg:G.γ (G.β id) with
         | none=>rfl
         | some r2=>exact absurd how ((m.resv _ r2 hg).2.1 _)
       ·rw [bE hbb] at hx
        obtain ⟨g1,g2,g3⟩:=m.frn b x hx
        exact ⟨g1,fun k hk=>absurd hk (g2 k),g3⟩) hmono (by
       refine m.obs.change (i:=id) (m':=cs.length+100 * (va / 100)) (c':=0) (va':=va % 100) (nl':=fun _=>true) (n':=fun _=>0) (ks':=fun _ _=>.empty) (vs':=fun _ _=>[]) (fun e1 he=>?_) (by rw [hid]; simp) rfl rfl hiff hmono ?_ ?_ (fun k e1 hk he=>?_) ?_ (fun _=>hnp)
       ·rw [hid] at he
        cases he
        exact .inr ⟨bL hna,hnoid⟩
       ·exact fB m.obs.uniq fun k y hy e1 _=>absurd e1 (hnoid k y hy)
       ·show bX s.hp _ id=_
        simp only [bX,Nat.beq_refl,cond_true]
       ·rcases aN he with ⟨e1,_⟩ | ⟨_,e1⟩
        ·exact absurd e1 hk
        ·exact .inl e1
       ·refine ⟨c,e,bP _ _ _,by rw [hmod]; exact h2,fun j=>.inl ⟨rfl,fun hj=>?_,fun k y hy hyi=>?_⟩,fun _ _ _ _ _=>rfl⟩
        ·rw [hmod] at hj
         have:=h3 j hj
         rw [hnil j hj] at this
         generalize c.getD j undef=v at this ⊢
         cases this with
         | pure h _=>cases h; rfl
        ·have hy:b8 G.φ (G.β id) _ k=some y:=hy
         by_cases hk2:k=G.β id
         ·subst hk2
          rw [bP] at hy
          cases hy
          simp
         ·rw [bE hk2] at hy
          exact absurd hyi (hnoid k y hy))
     have kk:Keeps 0 0 G { G with φ:=b8 G.φ (G.β id) ⟨G.β id,0,.cells c e (0,0)⟩ } s.tk s.tk:=Keeps.φ 0 0 s.tk hmono
     refine ⟨_,_,hk,⟨r.defers,r.size,fun i hi'=>(r.slots i hi').keep kk (lY _),m1,r.par⟩,fun h=>⟨(hcl h).fr,fun i f cs' hx=>?_,(hcl h).tk⟩⟩
     rcases aN hx with ⟨rfl,hx'⟩ | ⟨_,hx'⟩
     ·cases hx'
      exact ⟨((hcl h).hp _ _ _ hid).1,rfl⟩
     ·exact (hcl h).hp i f cs' hx'
   ·cases hs'
  ·cases hs'
 ·exact hk.elim
end
section
variable {E:Env} {ops:Array Oper} {A:Nat→AO} {s:St} {K:St→Prop}
theorem y3:∀ {l:List Nat} {x y:Nat},bef l x y=true→[x,y].Sublist l
 | [],_,_,h=>by simp [bef] at h
 | a::l,x,y,h=>by
  simp only [bef] at h
  cases hb:Nat.beq a x with
  | true =>
   rw [hb] at h
   have:=Nat.eq_of_beq_eq_true hb
   subst this
   simp only [cond_true,List.any_eq_true] at h
   obtain ⟨z,hz,h1⟩:=h
   have:=Nat.eq_of_beq_eq_true h1
   subst this
   exact List.Sublist.cons_cons _ (List.singleton_sublist.2 hz)
  | false =>
   rw [hb] at h
   exact .cons _ (y3 h)
theorem aFB:∀ {l:List Nat} {x y:Nat},l.Nodup→[x,y].Sublist l→bef l x y=true
 | [],_,_,_,h=>by simp at h
 | a::l,x,y,hn,h=>by
  have hn':=List.nodup_cons.1 hn
  simp only [bef]
  cases hb:Nat.beq a x with
  | true =>
   have:=Nat.eq_of_beq_eq_true hb
   subst this
   simp only [cond_true,List.any_eq_true]
   cases h with
   | cons _ h=>exact absurd (h.subset (by simp)) hn'.1
   | cons_cons _ h=>exact ⟨y,List.singleton_sublist.1 h,Nat.beq_refl _⟩
  | false =>
   simp only [cond_false]
   cases h with
   | cons _ h=>exact aFB hn'.2 h
   | cons_cons _ h=>rw [Nat.beq_refl] at hb; cases hb
theorem yT:∀ {l:List Nat} {x y:Nat},x∈l→y∈l→x≠y→[x,y].Sublist l∨[y,x].Sublist l
 | a::l,x,y,hx,hy,hne=>by
  simp only [List.mem_cons] at hx hy
  rcases hx with rfl | hx
  ·rcases hy with rfl | hy
   ·exact absurd rfl hne
   ·exact .inl (.cons_cons _ (List.singleton_sublist.2 hy))
  ·rcases hy with rfl | hy
   ·exact .inr (.cons_cons _ (List.singleton_sublist.2 hx))
   ·exact (yT hx hy hne).imp (.cons _) (.cons _)
theorem kR:∀ {l:List Nat} {x y:Nat},l.Nodup→[x,y].Sublist l→¬[y,x].Sublist l
 | a::l,x,y,hn,h,k=>by
  have hn':=List.nodup_cons.1 hn
  cases h with
  | cons _ h =>
   cases k with
   | cons _ k=>exact kR hn'.2 h k
   | cons_cons _ k=>exact hn'.1 (h.subset (by simp))
  | cons_cons _ h =>
   cases k with
   | cons _ k=>exact hn'.1 (k.subset (by simp))
   | cons_cons _ k=>exact hn'.1 (h.subset (by simp))
theorem xN (hE:fU E) (hok:∀ i,i < ops.size→jO (A i).op=true∧(A i).args.all mH=true) (hdis:∀ i j,i≠j→i < ops.size→j < ops.size→Dis (A i) (A j)) :
  ∀ (π ρ:List Nat) (s:St),ρ.Nodup→(∀ j∈ρ,j < ops.size)→ρ.Perm π→(∀ q p,[q,p].Sublist ρ→[p,q].Sublist π→Apart (A q) (A p))→(∀ j∈ρ,Tidy (A j).id ((A j).id+bF (A j).op) s)→l9 E (ρ.map A) s K→l9 E (π.map A) s K
 | [],ρ,s,_,_,hp,_,_,hk=>by
  have:=hp.eq_nil
  subst this
  exact hk
 | p::π,ρ,s,hn,hlt,hp,h,ht,hk=>by
  have hm:p∈ρ:=hp.symm.subset (by simp)
  obtain ⟨l1,l2,hL⟩:=List.append_of_mem hm
  subst hL
  have hsub:(l1++l2).Sublist (l1++p::l2):=List.Sublist.append (.refl _) (.cons _ (.refl _))
  have hperm:(l1++l2).Perm π:=by
   have:(p::(l1++l2)).Perm (p::π):=List.perm_middle.symm.trans hp
   exact List.perm_cons p |>.1 this
  have hne:∀ q∈l1++l2,q≠p:=fun q hq he=>by
   subst he
   have:=(List.perm_middle (a:=q) (l₁:=l1) (l₂:=l2)).nodup_iff.1 hn
   exact (List.nodup_cons.1 this).1 hq
  have hlt1:∀ q∈l1++l2,q < ops.size:=fun q hq=>hlt q (hsub.subset hq)
  have hpl:=hlt p hm
  have hn1:=hn.sublist hsub
  rw [List.map_append,List.map_cons] at hk
  have hbr:=aHY (p:=A p) hE (hok p hpl).1 (hok p hpl).2 (l1:=l1.map A) (l2:=l2.map A) (s:=s) (K:=K) (fun q hq=>by
   obtain ⟨j,hj,rfl⟩:=List.mem_map.1 hq
   have hj2:j∈l1++l2:=by simp [hj]
   refine ⟨h j p ?_ ?_,(hok j (hlt1 j hj2)).1,(hok j (hlt1 j hj2)).2,hdis j p (hne j hj2) (hlt1 j hj2) hpl⟩
   ·exact (List.Sublist.append (List.singleton_sublist.2 hj) (List.singleton_sublist.2 List.mem_cons_self):([j]++[p]).Sublist (l1++p::l2))
   ·exact .cons_cons _ (List.singleton_sublist.2 (hperm.subset hj2))) (by
   refine List.pairwise_map.2 ((List.pairwise_append.1 hn1).1.imp_of_mem fun {a b} ha hb hab=>?_)
   exact hdis _ _ hab (hlt1 _ (by simp [ha])) (hlt1 _ (by simp [hb]))) (ht p hm) (fun q hq=>by
   obtain ⟨j,hj,rfl⟩:=List.mem_map.1 hq
   exact ht j (by simp [hj])) hk
  rw [List.map_cons]
  refine qE hE (fun s1 h1=>?_) (t8 hE (hok p hpl).1 (hok p hpl).2 hbr)
  obtain ⟨h1,h2⟩:=h1
  refine xN hE hok hdis π (l1++l2) s1 hn1 hlt1 hperm (fun q r hq hr=>h q r (hq.trans hsub) (.cons _ hr)) (fun j hj=>h2 _ _ (ht j (hsub.subset hj)) (hdis p j (fun e=>hne j hj e.symm) hpl (hlt1 j hj))) ?_
  rw [List.map_append]
  exact h1
theorem aA6 (hb:fM ops.toList 0=true):∀ (fuel t:Nat) (listed:Array Bool),listed.size=ops.size→aDL ops listed→(rem ops.size listed).length≤fuel →
  (rem ops.size listed).Perm (Region.linearise.go .any ops fuel t listed [])∧(Region.linearise.go .any ops fuel t listed []).Pairwise fun a b=>jC ops ops.size a b=false
 | 0,t,listed,hsz,hc,hf=>by
  have:rem ops.size listed=[]:=List.length_eq_zero_iff.1 (by omega)
  rw [this]
  simp [Region.linearise.go]
 | fuel+1,t,listed,hsz,hc,hf=>by
  rw [y9]
  split
  ·rename_i i hi
   obtain ⟨hm,o,ho,hafter⟩:=(mA hsz).1 (List.mem_of_getElem? hi)
   have hlt:=(fF.1 hm).1
   obtain ⟨l1,l2,hL⟩:=List.append_of_mem hm
   have hs:=lK ops.size listed
   rw [hL] at hs
   obtain ⟨hfil,hl1⟩:=p7 hs
   have hset:rem ops.size (listed.setIfInBounds i true)=l1++l2:=by rw [qP (by omega),hL,hfil]
   have hbd:∀ j,b6 listed j=true→j < ops.size:=fun j hj=>by
    rcases Nat.lt_or_ge j ops.size with h | h
    ·exact h
    ·have:listed[j]? = none:=Array.getElem?_eq_none (by omega)
     simp [b6,this] at hj
   obtain ⟨h1,h2⟩:=aA6 hb fuel (t / (Region.ready .any ops listed).length) (listed.setIfInBounds i true) (by simp [hsz]) (fun j o' ho' hj e he hbi=>by
    rw [pA (by omega)] at hj ⊢
    simp only [Bool.or_eq_true,beq_iff_eq] at hj ⊢
    rcases hj with rfl | hj
    ·rw [ho] at ho'
     cases ho'
     exact .inr (hafter e he hbi)
    ·exact .inr (hc j o' ho' hj e he hbi)) (by
    rw [hset]
    rw [hL] at hf
    simp only [List.length_append,List.length_cons] at hf ⊢
    omega)
   refine ⟨?_,List.pairwise_cons.2 ⟨fun b hbm=>?_,h2⟩⟩
   ·rw [hL]
    rw [hset] at h1
    exact List.perm_middle.trans (List.Perm.cons _ h1)
   ·have hbr:b∈rem ops.size listed:=by
     have:=h1.symm.subset hbm
     rw [qP (by omega),List.mem_filter] at this
     exact this.1
    cases hr:jC ops ops.size i b with
    | false=>rfl
    | true =>
     have:=lN hc _ i b o ho hafter hbd hr
     rw [(fF.1 hbr).2] at this
     cases this
  ·rename_i hn
   have:=vC hsz hb (xU hn)
   rw [this]
   simp
theorem aCJ {α:Type} (f:α→Bool):∀ (l:List α),l.map f∈aI4 l.length
 | []=>by simp [aI4]
 | a::l=>by
  simp only [aI4,List.map_cons,List.length_cons,List.mem_flatMap]
  refine ⟨l.map f,aCJ f l,?_⟩
  cases f a <;> simp
theorem pP (f:Nat×Nat→Bool):∀ {C:List (Nat×Nat)} {i j:Nat},(i,j)∈C→m5 C (C.map f) i j=f (i,j)
 | (a,b)::C,i,j,h=>by
  simp only [List.map_cons,m5]
  cases hb:(Nat.beq a i&&Nat.beq b j) with
  | true =>
   rw [Bool.and_eq_true] at hb
   have e1:=Nat.eq_of_beq_eq_true hb.1
   have e2:=Nat.eq_of_beq_eq_true hb.2
   subst e1 e2
   rfl
  | false =>
   simp only [List.mem_cons,Prod.mk.injEq] at h
   rcases h with ⟨rfl,rfl⟩ | h
   ·simp [Nat.beq_refl] at hb
   ·exact pP f h
theorem aA5 {ays:List AO} {i j:Nat}:(i,j)∈iT ops ays↔i < j∧j < ops.size∧hJ ays i j=false∧jC ops ops.size j i=false:=by
 unfold iT
 simp only [List.mem_flatMap,List.mem_range,List.mem_map,List.mem_filter,Bool.and_eq_true,decide_eq_true_eq,Bool.not_eq_true',Prod.mk.injEq]
 constructor
 ·rintro ⟨a,h1,b,⟨h2,⟨h3,h4⟩,h5⟩,rfl,rfl⟩
  exact ⟨h3,h1,h4,h5⟩
 ·rintro ⟨h1,h2,h3,h4⟩
  exact ⟨j,h2,i,⟨by omega,⟨h1,h3⟩,h4⟩,rfl,rfl⟩
theorem mE:∀ {l:List Nat},n5 l=true→l.Nodup
 | [],_=>List.nodup_nil
 | a::l,h=>by
  simp only [n5,Bool.and_eq_true,Bool.not_eq_true',List.any_eq_false] at h
  exact List.nodup_cons.2 ⟨fun hm=>h.1 a hm (Nat.beq_refl a),mE h.2⟩
theorem rU {l:List Nat} {n:Nat} (h2:l.Nodup) (h1:∀ i,i < n→i∈l) (h3:∀ i∈l,i < n):l.Perm (List.range n):=by
 rw [List.perm_iff_count]
 intro a
 by_cases ha:a < n
 ·rw [List.Nodup.count h2,List.Nodup.count List.nodup_range,if_pos (h1 a ha),if_pos (List.mem_range.2 ha)]
 ·rw [List.count_eq_zero_of_not_mem (fun h=>ha (h3 a h)),List.count_eq_zero_of_not_mem (fun h=>ha (List.mem_range.1 h))]
theorem aCD {ays:List AO} (h:kT ops ays=true) {π:List Nat} (hp:(List.range ops.size).Perm π) (hr:π.Pairwise fun a b=>jC ops ops.size a b=false) :
  ∃ ρ:List Nat,ρ.filterMap (fun i=>ays[i]?)∈qZ ops ays∧ρ.Nodup∧(∀ i∈ρ,i < ops.size)∧ρ.Perm π∧∀ q p,[q,p].Sublist ρ→[p,q].Sublist π→(q < p→hJ ays q p=true)∧(p < q→hJ ays p q=true):=by
 unfold kT at h
 simp only [Bool.and_eq_true,List.all_eq_true] at h
 have hn:π.Nodup:=hp.nodup_iff.1 List.nodup_range
 have hmem:∀ i,i < ops.size→i∈π:=fun i hi=>hp.subset (List.mem_range.2 hi)
 let C:=iT ops ays
 let S:=C.map fun x=>bef π x.2 x.1
 have hS:(S,tR (p4 ops ays C S) ops.size (List.range ops.size))∈aAE ops ays:=by
  unfold aAE
  exact List.mem_map.2 ⟨S,aCJ _ C,rfl⟩
 have hrow:=h.2 _ hS
 -- what must be ahead is ahead
 have hprec:∀ a b,a < ops.size→b < ops.size→p4 ops ays C S a b=true→[a,b].Sublist π:=fun a b ha hb hpr=>by
  unfold p4 at hpr
  cases hlt:Nat.blt a b with
  | true =>
   rw [hlt] at hpr
   have hab:a < b:=by rw [Nat.blt_eq] at hlt; exact hlt
   simp only [cond_true,Bool.and_eq_true,Bool.or_eq_true,Bool.not_eq_true'] at hpr
   rcases yT (hmem a ha) (hmem b hb) (by omega) with h1 | h1
   ·exact h1
   ·exfalso
    have hre:jC ops ops.size b a=false:=List.pairwise_iff_forall_sublist.1 hr h1
    rcases hpr.2 with h2 | h2
    ·rw [hre] at h2; cases h2
    ·have hC:(a,b)∈C:=aA5.2 ⟨hab,hb,hpr.1,hre⟩
     rw [pP _ hC] at h2
     rw [aFB hn h1] at h2
     cases h2
  | false =>
   rw [hlt] at hpr
   simp only [cond_false,Bool.and_eq_true,Bool.not_eq_true'] at hpr
   obtain ⟨h0,⟨h1,h2⟩,h3⟩:=hpr
   have hba:b < a:=by rw [Nat.blt_eq] at h0; exact h0
   have hC:(b,a)∈C:=aA5.2 ⟨hba,ha,h1,h2⟩
   rw [pP _ hC] at h3
   exact y3 h3
 unfold aE6 at hrow
 generalize hR:tR (p4 ops ays C S) ops.size (List.range ops.size)=R at hS hrow
 obtain ⟨ρ,left⟩:=R
 cases left with
 | nil =>
  simp only [Bool.and_eq_true,List.all_eq_true,List.mem_range,Bool.or_eq_true,Bool.not_eq_true'] at hrow
  obtain ⟨⟨⟨h1,h2⟩,h3⟩,h4⟩:=hrow
  have h2:=mE h2
  have h3:∀ i∈ρ,i < ops.size:=fun i hi=>by have:=h3 i hi; rw [Nat.blt_eq] at this; exact this
  have hperm:ρ.Perm π:=(rU h2 (fun i hi=>by have:=h1 i hi; obtain ⟨j,hj,e⟩:=List.any_eq_true.1 this; have:=Nat.eq_of_beq_eq_true e; rw [this]; exact hj) h3).trans hp
  have key:∀ q p,[q,p].Sublist ρ→[p,q].Sublist π→p4 ops ays C S p q=false∧p4 ops ays C S q p=false:=fun q p hq hpp=>by
   have lq:=h3 q (hq.subset (by simp))
   have lp:=h3 p (hq.subset (by simp))
   constructor
   ·cases hx:p4 ops ays C S p q with
    | false=>rfl
    | true =>
     rcases h4 p lp q lq with h5 | h5
     ·rw [hx] at h5; cases h5
     ·exact absurd (y3 h5) (kR h2 hq)
   ·cases hx:p4 ops ays C S q p with
    | false=>rfl
    | true=>exact absurd (hprec q p lq lp hx) (kR hn hpp)
  refine ⟨ρ,?_,h2,h3,hperm,fun q p hq hpp=>?_⟩
  ·unfold qZ
   exact List.mem_map.2 ⟨_,List.mem_filter.2 ⟨hS,rfl⟩,rfl⟩
  ·obtain ⟨k1,k2⟩:=key q p hq hpp
   have half:∀ a b,a < b→p4 ops ays C S a b=false→p4 ops ays C S b a=false→hJ ays a b=true:=fun a b hab e1 e2=>by
    unfold p4 at e1 e2
    have b1:Nat.blt a b=true:=by rw [Nat.blt_eq]; exact hab
    have b2:Nat.blt b a=false:=by rw [← Bool.not_eq_true,Nat.blt_eq]; omega
    rw [b1] at e1
    rw [b2] at e2
    simp only [cond_true,cond_false] at e1 e2
    rw [b1] at e2
    cases hap:hJ ays a b with
    | true=>rfl
    | false =>
     rw [hap] at e1 e2
     simp only [Bool.not_false,Bool.true_and,Bool.or_eq_false_iff,Bool.not_eq_false'] at e1 e2
     rw [e1.1,e1.2] at e2
     simp at e2
   exact ⟨fun hlt=>half q p hlt k2 k1,fun hlt=>half p q hlt k1 k2⟩
 | cons x left =>
  exfalso
  simp only [Bool.and_eq_true,List.all_eq_true,List.any_eq_true] at hrow
  obtain ⟨h1,h2⟩:=hrow
  have h1:∀ i∈x::left,i < ops.size:=fun i hi=>by have:=h1 i hi; rw [Nat.blt_eq] at this; exact this
  -- the first one of those left
  have first:∀ (l:List Nat),(∃ i∈x::left,i∈l)→∃ l1 i l2,l=l1++i::l2∧i∈x::left∧∀ j∈l1,j ∉ x::left:=by
   intro l
   induction l with
   | nil=>rintro ⟨_,_,h⟩; cases h
   | cons a l ih =>
    rintro ⟨i,hi,hil⟩
    by_cases ha:a∈x::left
    ·exact ⟨[],a,l,rfl,ha,fun _ h=>by cases h⟩
    ·have hil':i∈l:=by
      rcases List.mem_cons.1 hil with rfl | h
      ·exact absurd hi ha
      ·exact h
     obtain ⟨l1,i',l2,h3,h4,h5⟩:=ih ⟨i,hi,hil'⟩
     refine ⟨a::l1,i',l2,by rw [h3]; rfl,h4,fun j hj=>?_⟩
     rcases List.mem_cons.1 hj with rfl | hj
     ·exact ha
     ·exact h5 j hj
  obtain ⟨l1,i,l2,h3,h4,h5⟩:=first π ⟨x,by simp,hmem x (h1 x (by simp))⟩
  obtain ⟨j,hj,hji⟩:=h2 i h4
  have hs:=hprec j i (h1 j hj) (h1 i h4) hji
  have hjm:j∈π:=hs.subset (by simp)
  rw [h3] at hjm
  simp only [List.mem_append,List.mem_cons] at hjm
  rcases hjm with h6 | rfl | h6
  ·exact h5 j h6 hj
  ·exact kR hn hs hs
  ·refine kR hn hs ?_
   rw [h3]
   exact List.sublist_append_of_sublist_right (.cons_cons _ (List.singleton_sublist.2 h6))
end
section
variable {P:Program} {F:Nat→FuncId} {ft:FT} {E:Env} {np:Nat}
theorem yK {A:Nat→AO} {ays:List AO} (h:∀ (i:Nat) (x:AO),ays[i]? = some x→A i=x):(List.range ays.length).map A=ays:=by
 apply List.ext_getElem?
 intro i
 simp only [List.getElem?_map]
 by_cases hi:i < ays.length
 ·rw [List.getElem?_range hi,List.getElem?_eq_getElem hi]
  simp only [Option.map_some,Option.some.injEq]
  exact h i _ (List.getElem?_eq_getElem hi)
 ·rw [List.getElem?_eq_none (by simpa using hi),List.getElem?_eq_none (by omega)]
  rfl
theorem aCI {ops:Array Oper} {ays:List AO} (h:vK ops ays=true):fM ops.toList 0=true∧∀ (i j:Nat) (x y:AO),i < j→ays[i]? = some x→ays[j]? = some y→Apart x y∨jC ops ops.size j i=true:=by
 unfold vK at h
 simp only [Bool.and_eq_true,List.all_eq_true] at h
 refine ⟨h.1,fun i j x y hij hx hy=>?_⟩
 have h1:(y,j)∈ays.zipIdx:=List.mem_zipIdx_iff_getElem?.2 hy
 have h2:(x,i)∈ays.zipIdx:=List.mem_zipIdx_iff_getElem?.2 hx
 have h3:=h.2 (y,j) h1 (x,i) h2
 simp only [Bool.or_eq_true,Bool.not_eq_true',decide_eq_false_iff_not] at h3
 rcases h3 with (h3 | h3) | h3
 ·exact absurd hij h3
 ·exact .inl (uW h3)
 ·exact .inr h3
theorem aGW (hE:EnvOk P F E) (hft:pC P F ft) (hmix:P.follows .mixedOrders=true) {id:Nat} {ops:Array Oper} {draw:Bool} {at_ n:Nat} {ays:List AO} (h:wD P ft np ops ops.toList at_=some (ays,n)) (hd:draw=true→vK ops ays=true) :
  aDZ P F E np (.region id ops draw) (.region ays) at_ n:=by
 intro B w0 ext σ0 G s a w Q Qm hnp r hcl hk hn
 obtain ⟨hlen,hle,hA,hids⟩:=jK h
 have hlen':ops.size=ays.length:=by simpa using hlen
 let dummy:AO:=⟨none,0,.move,[],none⟩
 let A:Nat→AO:=fun i=>ays.getD i dummy
 have hAs:∀ (i:Nat) (x:AO),ays[i]? = some x→A i=x:=fun i x hx=>by
  show ays.getD i dummy=x
  rw [List.getD_eq_getElem?_getD,hx]
  rfl
 have hget:∀ i,i < ops.size→ays[i]? = some (A i):=fun i hi=>by
  have hi':i < ays.length:=by omega
  have:=List.getElem?_eq_getElem hi'
  rw [hAs i _ this]
  exact this
 have hAOR:∀ (i:Nat) (o:Oper),ops[i]? = some o→AOR P ft np ops o (A i):=fun i o ho=>by
  have hi:=(Array.getElem?_eq_some_iff.1 ho).1
  exact (hA i o (A i) (by rw [Array.getElem?_toList]; exact ho) (hget i hi)).1
 have hbound:∀ i,i < ops.size→at_≤(A i).id∧(A i).id+bF (A i).op≤n:=fun i hi =>
  (hA i ops[i] (A i) (by rw [Array.getElem?_toList]; exact Array.getElem?_eq_getElem hi) (hget i hi)).2
 have hmap:(List.range ops.size).map A=ays:=by rw [hlen']; exact yK hAs
 have hdis:∀ i j,i < j→j < ops.size→Dis (A i) (A j):=fun i j hij hj=>by
  have hi':i < ays.length:=by omega
  have hj':j < ays.length:=by omega
  have:=List.pairwise_iff_getElem.1 hids i j hi' hj' hij
  have e1:A i=ays[i]:=hAs i _ (List.getElem?_eq_getElem hi')
  have e2:A j=ays[j]:=hAs j _ (List.getElem?_eq_getElem hj')
  rw [e1,e2]
  exact .inl this
 have hdis2:∀ i j,i≠j→i < ops.size→j < ops.size→Dis (A i) (A j):=fun i j h1 h2 h3=>by
  rcases Nat.lt_or_ge i j with h | h
  ·exact hdis i j h h3
  ·exact (hdis j i (by omega) h2).symm
 have hclj:∀ j,j < ops.size→Clean (A j).id ((A j).id+bF (A j).op) s:=fun j hj=>(hcl _).sub (hbound j hj).1 (Nat.le_refl _)
 have fin:∀ (js:List Nat) (w:World),(∀ j∈js,j < ops.size)→js.Nodup→Rel F B np w0 ext σ0 G s a w→l9 E (js.map A) s (Q .normal)→wpOps P ops Qm js a w:=fun js w hlt hnd r hk =>
  zN hE hft hAOR js hlt (fun j hj=>Nat.le_trans hnp (hbound j (hlt j hj)).1) (List.pairwise_map.2 (hnd.imp_of_mem fun ha hb hab=>hdis2 _ _ hab (hlt _ ha) (hlt _ hb))) r (fun j hj=>hclj j (hlt j hj)) hk fun s' a' w' G' hk' r' hc =>
   hn .normal s' a' w' G' hk' r' fun h=>hc n h ((hcl h).sub hle (Nat.le_refl _)) fun j hj=>.inl (hbound j (hlt j hj)).2
 have hk':l9 E ((List.range ops.size).map A) s (Q .normal):=by rw [hmap]; exact hk
 cases draw with
 | false=>exact wp_region (fin _ w (fun j hj=>List.mem_range.1 hj) List.nodup_range r hk')
 | true =>
  obtain ⟨hb,hap⟩:=aCI (hd rfl)
  refine wp_region_draw fun t=>?_
  have hs:Region.schedule (P.follows .mixedOrders) ops t=Region.linearise .any ops t:=by
   simp only [Region.schedule,hmix,Bool.true_or,if_true]
  rw [hs]
  have hrem:rem ops.size (Array.replicate ops.size false)=List.range ops.size:=by
   unfold rem
   refine List.filter_eq_self.2 fun i hi=>?_
   have hi:=List.mem_range.1 hi
   simp [b6,hi]
  obtain ⟨hnd,hmem⟩:=aEV (ops:=ops) ops.size t (Array.replicate ops.size false) (by simp)
  refine fin _ _ (fun j hj=>(fF.1 (hmem j hj)).1) hnd ⟨r.defers,r.size,r.slots,r.mem.drew,r.par⟩ ?_
  refine aCL hE.mf hb (fun i j hij hj=>hap i j _ _ hij (hget i (by omega)) (hget j hj)) hdis (fun i hi=>⟨(hAOR i _ (Array.getElem?_eq_getElem hi)).ok,(hAOR i _ (Array.getElem?_eq_getElem hi)).ax⟩) ops.size t _ s (by simp) (fun j o ho hl=>?_) ?_ (fun j hj=>?_) ?_
  ·exfalso
   have hj:=(Array.getElem?_eq_some_iff.1 ho).1
   simp [b6,hj] at hl
  ·rw [hrem]; simp
  ·exact r.tidy (hclj j (fF.1 hj).1)
  ·rw [hrem]; exact hk'
theorem sV {l:List AO} {s:St} {K:St→Prop}:∀ {L:List (List AO)},l∈L→rD E L s K→l9 E l s K
 | [],h,_=>by cases h
 | [x],h,hk=>by
  rw [List.mem_singleton.1 h]
  exact hk
 | x::y::L,h,hk=>by
  rcases List.mem_cons.1 h with rfl | h
  ·exact hk.1
  ·exact sV h hk.2
theorem aG5 (hE:EnvOk P F E) (hft:pC P F ft) (hmix:P.follows .mixedOrders=true) {id:Nat} {ops:Array Oper} {at_ n:Nat} {ays:List AO} (h:wD P ft np ops ops.toList at_=some (ays,n)) (hd:kT ops ays=true) :
  aDZ P F E np (.region id ops true) (.orders (qZ ops ays)) at_ n:=by
 intro B w0 ext σ0 G s a w Q Qm hnp r hcl hk hn
 obtain ⟨hlen,hle,hA,hids⟩:=jK h
 have hlen':ops.size=ays.length:=by simpa using hlen
 let dummy:AO:=⟨none,0,.move,[],none⟩
 let A:Nat→AO:=fun i=>ays.getD i dummy
 have hAs:∀ (i:Nat) (x:AO),ays[i]? = some x→A i=x:=fun i x hx=>by
  show ays.getD i dummy=x
  rw [List.getD_eq_getElem?_getD,hx]
  rfl
 have hget:∀ i,i < ops.size→ays[i]? = some (A i):=fun i hi=>by
  have hi':i < ays.length:=by omega
  have:=List.getElem?_eq_getElem hi'
  rw [hAs i _ this]
  exact this
 have hAOR:∀ (i:Nat) (o:Oper),ops[i]? = some o→AOR P ft np ops o (A i):=fun i o ho=>by
  have hi:=(Array.getElem?_eq_some_iff.1 ho).1
  exact (hA i o (A i) (by rw [Array.getElem?_toList]; exact ho) (hget i hi)).1
 have hbound:∀ i,i < ops.size→at_≤(A i).id∧(A i).id+bF (A i).op≤n:=fun i hi =>
  (hA i ops[i] (A i) (by rw [Array.getElem?_toList]; exact Array.getElem?_eq_getElem hi) (hget i hi)).2
 have hmap:(List.range ops.size).map A=ays:=by rw [hlen']; exact yK hAs
 have hdis:∀ i j,i < j→j < ops.size→Dis (A i) (A j):=fun i j hij hj=>by
  have hi':i < ays.length:=by omega
  have hj':j < ays.length:=by omega
  have:=List.pairwise_iff_getElem.1 hids i j hi' hj' hij
  have e1:A i=ays[i]:=hAs i _ (List.getElem?_eq_getElem hi')
  have e2:A j=ays[j]:=hAs j _ (List.getElem?_eq_getElem hj')
  rw [e1,e2]
  exact .inl this
 have hdis2:∀ i j,i≠j→i < ops.size→j < ops.size→Dis (A i) (A j):=fun i j h1 h2 h3=>by
  rcases Nat.lt_or_ge i j with h | h
  ·exact hdis i j h h3
  ·exact (hdis j i (by omega) h2).symm
 have hclj:∀ j,j < ops.size→Clean (A j).id ((A j).id+bF (A j).op) s:=fun j hj=>(hcl _).sub (hbound j hj).1 (Nat.le_refl _)
 have fin:∀ (js:List Nat) (w:World),(∀ j∈js,j < ops.size)→js.Nodup→Rel F B np w0 ext σ0 G s a w→l9 E (js.map A) s (Q .normal)→wpOps P ops Qm js a w:=fun js w hlt hnd r hk =>
  zN hE hft hAOR js hlt (fun j hj=>Nat.le_trans hnp (hbound j (hlt j hj)).1) (List.pairwise_map.2 (hnd.imp_of_mem fun ha hb hab=>hdis2 _ _ hab (hlt _ ha) (hlt _ hb))) r (fun j hj=>hclj j (hlt j hj)) hk fun s' a' w' G' hk' r' hc =>
   hn .normal s' a' w' G' hk' r' fun h=>hc n h ((hcl h).sub hle (Nat.le_refl _)) fun j hj=>.inl (hbound j (hlt j hj)).2
 refine wp_region_draw fun t=>?_
 have hs:Region.schedule (P.follows .mixedOrders) ops t=Region.linearise .any ops t:=by
  simp only [Region.schedule,hmix,Bool.true_or,if_true]
 rw [hs]
 have hrem:rem ops.size (Array.replicate ops.size false)=List.range ops.size:=by
  unfold rem
  refine List.filter_eq_self.2 fun i hi=>?_
  have hi:=List.mem_range.1 hi
  simp [b6,hi]
 have hb:fM ops.toList 0=true:=by
  unfold kT at hd
  simp only [Bool.and_eq_true] at hd
  exact hd.1.1
 obtain ⟨hperm,hpw⟩:=aA6 (ops:=ops) hb ops.size t (Array.replicate ops.size false) (by simp) (fun j o ho hl=>by
  exfalso
  have hj:=(Array.getElem?_eq_some_iff.1 ho).1
  simp [b6,hj] at hl) (by rw [hrem]; simp)
 rw [hrem] at hperm
 obtain ⟨ρ,h1,h2,h3,h4,h5⟩:=aCD hd hperm hpw
 refine fin _ _ (fun j hj=>h3 j (h4.symm.subset hj)) (h4.nodup_iff.1 h2) ⟨r.defers,r.size,r.slots,r.mem.drew,r.par⟩ ?_
 have hmapρ:ρ.filterMap (fun i=>ays[i]?)=ρ.map A:=by
  have key:∀ l:List Nat,(∀ i∈l,i < ops.size)→l.filterMap (fun i=>ays[i]?)=l.map A:=by
   intro l
   induction l with
   | nil=>intro _; rfl
   | cons i l ih =>
    intro h
    rw [List.filterMap_cons,hget i (h i (by simp))]
    simp only [List.map_cons]
    rw [ih fun j hj=>h j (List.mem_cons_of_mem _ hj)]
  exact key ρ h3
 rw [hmapρ] at h1
 have apA:∀ a b,a < ops.size→b < ops.size→hJ ays a b=true→Apart (A a) (A b):=fun a b ha hb hab=>by
  unfold hJ at hab
  rw [hget a ha,hget b hb] at hab
  exact uW hab
 refine xN hE.mf (fun i hi=>⟨(hAOR i _ (Array.getElem?_eq_getElem hi)).ok,(hAOR i _ (Array.getElem?_eq_getElem hi)).ax⟩) hdis2 _ ρ s h2 h3 h4 (fun q p hq hpp=>?_) (fun j hj=>r.tidy (hclj j (h3 j hj))) (sV h1 hk)
 have lq:=h3 q (hq.subset (by simp))
 have lp:=h3 p (hq.subset (by simp))
 have hne:q≠p:=fun e=>by subst e; exact kR h2 hq hq
 rcases Nat.lt_or_ge q p with h6 | h6
 ·exact apA q p lq lp ((h5 q p hq hpp).1 h6)
 ·exact (apA p q lp lq ((h5 q p hq hpp).2 (by omega))).symm
theorem Rd.ubool_inv {G:Gh} {tk:Nat→Option (Nat×Nat)} {v:Value} (h:Rd F G tk v .ubool):∃ b,v=.bool b:=by
 cases h with | any h=>cases h with | cell h=>cases h with | pure h _=>cases h; exact ⟨_,rfl⟩
theorem rM {l:List D} {j z n i:Nat} {t:Tag} {g:Nat→List D} (h:aI l=true) (_:i=i):aI (upd l j (.slice t z n g))=true:=by
 induction l generalizing j with
 | nil=>rfl
 | cons d l ih =>
  have hd:aI l=true:=by cases d <;> first | exact h | (simp [aI] at h; done)
  cases j with
  | zero=>exact hd
  | succ j =>
   have:=ih (j:=j) hd
   cases d <;> first | exact this | (simp [aI] at h; done)
theorem yI {k n:Nat} {l:List (Nat×Σ α:Type,α→Tm)}:n≤m7 k l n:=by
 unfold m7
 split
 ·rename_i j _ _
  cases (p8 k j || vG k j) with
  | true=>simp only [cond_true]; omega
  | false=>exact Nat.le_refl _
 ·exact Nat.le_refl _
theorem aGL {B:Nat} {w0:World} {ext:List Nat} {σ0:Og} {G:Gh} {s:St} {a:Act} {w:World} {n id j:Nat} {k:St→Prop} (hnp:np≤n) (r:Rel F B np w0 ext σ0 G s a w) (hcl:∀ h,Clean n h s) (hk:wS n id j s k) :
  ∃ G' s2,k s2∧Rel F B np w0 ext σ0 G' s2 a w∧∀ h,Clean (n+1) h s2:=by
 unfold wS at hk
 split at hk
 ·rename_i cs hi
  split at hk
  ·rename_i z m g hd
   obtain ⟨hs,hk⟩:=b7 hk
   obtain ⟨ob,hb,hh,hσ⟩:=r.mem.vars id cs hi (bW hs)
   obtain ⟨c,e,rfl,h2,h3⟩:=hh.cells hs
   have hj:j < cs.length:=by
    rcases Nat.lt_or_ge j cs.length with h | h
    ·exact h
    ·rw [iE cs _ h] at hd; cases hd
   have hv:=h3 j hj
   rw [hd] at hv
   have h3':=h3
   generalize hcv:c.getD j undef=x at hv
   obtain ⟨hrp,av,htag⟩:Rp G.σ x (.slice .full z m g)∧∃ av,x=.slice av m m:=by
    cases hv with
    | pure h1 h2=>exact ⟨h1,h2⟩
   have c1:=hcl (n+1)
   have hno:∀ id' f cs',s.hp id'=some (f,cs')→names n (n+1) cs'=false:=fun id' f cs' h=>(c1.hp id' f cs' h).2
   have m1:=r.mem.addTok n z m m av (Nat.le_refl _) (fun h=>by omega) (fun id' f cs' h q hq ⟨z',m',g',hc⟩=>by
    have:=dQ (hno id' f cs' h) hq
    rw [hc] at this
    have:=bC this
    omega)
   have kk:Keeps n (n+1) G { G with ρ:=fun q=>if q=n then .slice av m m else G.ρ q } s.tk (fun q=>bif Nat.beq q n then some (z,m) else s.tk q):=by
    refine ⟨SgLe.refl _,fun _ _=>rfl,fun i z' m' hi' h=>?_,fun _ _ _ _ h=>h,fun _ x h=>⟨x.ob,h⟩⟩
    rcases aN h with ⟨rfl,_⟩ | ⟨hne,h4⟩
    ·omega
    ·exact ⟨z',m',h4,Nat.le_refl _,fun _=>by simp only; rw [if_neg hne]⟩
   have m2:=m1.setObj id cs (upd cs j (.slice (.own n) z m g)) hi (.cells c e (0,0)) (w':=w) ⟨rfl,rfl,rfl,rfl,fun _ _=>rfl⟩ hb (bW hs) (.inl ⟨?_,c,e,rfl,by rw [cD]; exact h2,fun q hq=>?_⟩) (fun x va n2 ks vs h _=>by
    have h8:aI (upd cs j (.slice (.own n) z m g))=true:=rM (i:=0) hs rfl
    rw [h] at h8
    cases x <;> cases h8) (fun x va n2 ks vs h=>by
    have h8:aI (upd cs j (.slice (.own n) z m g))=true:=rM (i:=0) hs rfl
    rw [h] at h8
    cases x <;> cases h8)
   ·refine ⟨_,_,hk,⟨r.defers,r.size,fun i hi'=>(r.slots i hi').keep kk (c1.fr i hi'),m2,r.par⟩,fun h=>⟨fun i hi'=>((hcl h).sub (Nat.le_succ n) (Nat.le_refl h)).fr i hi',fun i f cs' hx=>?_,fun i e' hx=>?_⟩⟩
    ·rcases aN hx with ⟨rfl,hx'⟩ | ⟨_,hx'⟩
     ·cases hx'
      have c2:=(hcl h).hp _ _ _ hi
      refine ⟨by omega,aX.2 fun d hd'=>?_⟩
      rcases zS hd' with rfl | hd'
      ·exact aT (by omega)
      ·exact aX.1 (cZ c2.2 (Nat.le_succ n) (Nat.le_refl h)) d hd'
     ·exact ((hcl h).sub (Nat.le_succ n) (Nat.le_refl h)).hp i f cs' hx'
    ·rcases aN hx with ⟨rfl,_⟩ | ⟨_,hx'⟩
     ·omega
     ·exact ((hcl h).sub (Nat.le_succ n) (Nat.le_refl h)).tk i e' hx'
   ·exact rM (i:=0) hs rfl
   ·rw [cD] at hq
    rw [fN]
    by_cases hjq:j=q
    ·subst hjq
     rw [if_pos ⟨rfl,hq⟩,hcv]
     refine .pure ?_ ?_
     ·cases hrp with
      | slice a' _ c' _ _ _ b o val e1 e2 e3 e4 e5=>exact .slice a' m c' _ z g b o val e1 e2 e3 e4 e5
     ·intro z' m' hz
      simp only [Nat.beq_refl,cond_true,Option.some.injEq,Prod.mk.injEq] at hz
      obtain ⟨rfl,rfl⟩:=hz
      exact ⟨Nat.le_refl _,fun _=>by simp only [if_true]; exact htag⟩
    ·rw [if_neg (fun h=>hjq h.1)]
     exact (h3 q hq).keep kk (dQ (hno id false cs hi) hq)
  ·exact hk.elim
 ·exact hk.elim
theorem aI1 {s:St} {Q:AE→St→Prop} {k n:Nat} {l:List (Nat×Σ α:Type,α→Tm)} {x y:AC} (hnp:np≤n) (h:aev E (aG9 np k l n x y) Q s) :
  ∃ N:St→Prop,aev E x (aE8 N Q) s∧∀ {B:Nat} {w0:World} {ext:List Nat} {σ0:Og} {G:Gh} {s':St} {a:Act} {w:World},Rel F B np w0 ext σ0 G s' a w→(∀ h,Clean n h s')→N s'→∃ G' s2,aev E y Q s2∧Rel F B np w0 ext σ0 G' s2 a w∧∀ h,Clean (m7 k l n) h s2:=by
 have le:n≤m7 k l n:=yI
 unfold aG9 at h
 split at h
 ·rename_i j c r'
  cases hb:Nat.beq j k with
  | true =>
   rw [hb] at h
   simp only [cond_true,aev] at h
   refine ⟨_,h,fun r hc hN=>?_⟩
   simp only [aE8] at hN
   obtain ⟨x,h1,h2,h3,_⟩:=pN r hN
   exact ⟨_,_,h1,h2,Clean.up (fun h=>h3 _ _ (hc h)) le⟩
  | false =>
   rw [hb] at h
   simp only [cond_false] at h
   cases hb2:Nat.beq j (100000+k) with
   | true =>
    rw [hb2] at h
    simp only [cond_true,aev] at h
    obtain ⟨I,h1,h2⟩:=h
    refine ⟨_,h1,fun r hc hN=>?_⟩
    obtain ⟨x,h3,h4,h5,_⟩:=pN r hN
    exact ⟨_,_,h2 x h3,h4,Clean.up (fun h=>h5 _ _ (hc h)) le⟩
   | false =>
    rw [hb2] at h
    simp only [cond_false] at h
    cases hb3:p8 k j with
    | true =>
     rw [hb3] at h
     simp only [cond_true,aev] at h
     refine ⟨_,h,fun r hc hN=>?_⟩
     obtain ⟨G',s2,h1,h2,h3⟩:=aGL hnp r hc hN
     refine ⟨G',s2,h1,h2,?_⟩
     simp only [m7,hb3,Bool.true_or,cond_true]
     exact h3
    | false =>
    rw [hb3] at h
    simp only [cond_false] at h
    cases hb4:vG k j with
    | true =>
     rw [hb4] at h
     simp only [cond_true,aev] at h
     refine ⟨_,h,fun r hc hN=>?_⟩
     obtain ⟨G',s2,h1,h2,h3⟩:=aG8 hnp r hc hN
     refine ⟨G',s2,h1,h2,?_⟩
     simp only [m7,hb3,hb4,Bool.or_true,cond_true]
     exact h3
    | false =>
    rw [hb4] at h
    simp only [cond_false] at h
    cases hb5:aG6 k j with
    | true =>
     rw [hb5] at h
     simp only [cond_true,aev] at h
     refine ⟨_,h,fun r hc hN=>?_⟩
     obtain ⟨G',s2,h1,h2,h3⟩:=aJY r hc hN
     exact ⟨G',s2,h1,h2,Clean.up h3 le⟩
    | false =>
    rw [hb5] at h
    simp only [cond_false] at h
    cases hb6:zO k j with
    | true =>
     rw [hb6] at h
     simp only [cond_true,aev] at h
     refine ⟨_,h,fun r hc hN=>?_⟩
     obtain ⟨G',s2,h1,h2,h3⟩:=aG0 r hc hN
     exact ⟨G',s2,h1,h2,Clean.up h3 le⟩
    | false =>
     rw [hb6] at h
     exact ⟨_,h,fun r hc hN=>⟨_,_,hN,r,Clean.up hc le⟩⟩
 ·exact ⟨_,h,fun r hc hN=>⟨_,_,hN,r,hc⟩⟩
theorem iN (hE:EnvOk P F E) (hft:pC P F ft) (hmix:P.follows .mixedOrders=true):∀ (c:Code) (ts ts':TS) (x:AC),trC P ft np c ts=some (x,ts')→ts.at_≤ts'.at_∧aDZ P F E np c x ts.at_ ts'.at_
 | .skip,ts,ts',x,h=>by
  simp only [trC,Option.some.injEq,Prod.mk.injEq] at h
  obtain ⟨rfl,rfl⟩:=h
  exact ⟨Nat.le_refl _,fun _ r hcl hk hn=>wp_skip (hn .normal _ _ _ _ hk r hcl)⟩
 | .exit id,ts,ts',x,h=>by
  simp only [trC,Option.some.injEq,Prod.mk.injEq] at h
  obtain ⟨rfl,rfl⟩:=h
  exact ⟨Nat.le_refl _,fun _ r hcl hk hn=>wp_exit (hn (.exit id) _ _ _ _ hk r hcl)⟩
 | .ret,ts,ts',x,h=>by
  simp only [trC,Option.some.injEq,Prod.mk.injEq] at h
  obtain ⟨rfl,rfl⟩:=h
  exact ⟨Nat.le_refl _,fun _ r hcl hk hn=>wp_ret (hn .ret _ _ _ _ hk r hcl)⟩
 | .region id ops draw,ts,ts',x,h=>by
  simp only [trC] at h
  split at h
  ·rename_i ays n hA
   cases hb:(draw&&!vK ops ays) with
   | true =>
    rw [hb] at h
    simp only [cond_true] at h
    cases ho:kT ops ays with
    | false=>rw [ho] at h; cases h
    | true =>
     rw [ho] at h
     cases h
     have hdr:draw=true:=by cases draw <;> simp_all
     subst hdr
     exact ⟨(jK hA).2.1,aG5 hE hft hmix hA ho⟩
   | false =>
    rw [hb] at h
    cases h
    refine ⟨(jK hA).2.1,aGW hE hft hmix hA fun hd=>?_⟩
    rw [hd] at hb
    simpa using hb
  ·cases h
 | .seq c1 c2,ts,ts',x,h=>by
  simp only [trC] at h
  split at h
  ·rename_i x1 ts1 h1
   split at h
   ·rename_i x2 ts2 h2
    cases h
    obtain ⟨l1,k1⟩:=iN hE hft hmix c1 _ ts1 x1 h1
    obtain ⟨l2,k2⟩:=iN hE hft hmix c2 _ ts' x2 h2
    simp only at l1 k1 l2 k2
    have l3:ts1.at_≤m7 ts.seqs ts1.cuts ts1.at_:=yI
    refine ⟨Nat.le_trans l1 (Nat.le_trans l3 l2),fun {B w0 ext σ0 G s a w Q Qm} hnp r hcl hk hn=>?_⟩
    obtain ⟨N,hk,hN⟩:=aI1 (F:=F) (np:=np) (n:=ts1.at_) (Nat.le_trans hnp l1) hk
    refine wp_seq (k1 hnp r hcl hk fun e s' a' w' G' hq r' hc=>?_)
    cases e with
    | normal =>
     obtain ⟨G2,s2,hq2,r2,hc2⟩:=hN r' hc hq
     exact k2 (Nat.le_trans hnp (Nat.le_trans l1 l3)) r2 hc2 hq2 hn
    | exit id=>exact hn (.exit id) s' a' w' G' hq r' (Clean.up hc (Nat.le_trans l3 l2))
    | ret=>exact hn .ret s' a' w' G' hq r' (Clean.up hc (Nat.le_trans l3 l2))
   ·cases h
  ·cases h
 | .cond c c1 c2,ts,ts',x,h=>by
  simp only [trC] at h
  split at h
  ·rename_i ax x1 ts1 hx h1
   split at h
   ·rename_i x2 ts2 h2
    cases h
    obtain ⟨l1,k1⟩:=iN hE hft hmix c1 ts ts1 x1 h1
    obtain ⟨l2,k2⟩:=iN hE hft hmix c2 ts1 ts' x2 h2
    refine ⟨Nat.le_trans l1 l2,fun {B w0 ext σ0 G s a w Q Qm} hnp r hcl hk hn=>?_⟩
    simp only [aev] at hk
    have hc:=a8 hft.eq r hx
    cases hv:ax.ev s.fr with
    | bool b =>
     rw [hv] at hk hc
     have hcv:=hc.bool_inv
     cases b with
     | true=>exact wp_cond_true hcv (k1 hnp r hcl hk fun e s' a' w' G' hq r' hc'=>hn e s' a' w' G' hq r' (Clean.up hc' l2))
     | false=>exact wp_cond_false hcv (k2 (Nat.le_trans hnp l1) r (Clean.up hcl l1) hk hn)
    | ubool =>
     rw [hv] at hk hc
     obtain ⟨b,hcv⟩:=hc.ubool_inv
     cases b with
     | true=>exact wp_cond_true hcv (k1 hnp r hcl hk.1 fun e s' a' w' G' hq r' hc'=>hn e s' a' w' G' hq r' (Clean.up hc' l2))
     | false=>exact wp_cond_false hcv (k2 (Nat.le_trans hnp l1) r (Clean.up hcl l1) hk.2 hn)
    | _=>rw [hv] at hk; exact hk.elim
   ·cases h
  ·cases h
 | .block id c,ts,ts',x,h=>by
  simp only [trC] at h
  split at h
  ·rename_i x1 ts1 h1
   cases h
   obtain ⟨l1,k1⟩:=iN hE hft hmix c ts ts' x1 h1
   refine ⟨l1,fun {B w0 ext σ0 G s a w Q Qm} hnp r hcl hk hn=>wp_block (k1 hnp r hcl hk fun e s' a' w' G' hq r' hc=>?_)⟩
   cases e with
   | normal=>exact hn .normal s' a' w' G' hq r' hc
   | exit j =>
    simp only [aIM,Exit.inBlock]
    simp only [aJL] at hq
    cases hb:Nat.beq j id with
    | true =>
     rw [hb] at hq
     rw [if_pos (Nat.eq_of_beq_eq_true hb)]
     exact hn .normal s' a' w' G' hq r' hc
    | false =>
     rw [hb] at hq
     rw [if_neg (fun he=>by rw [he,Nat.beq_refl] at hb; cases hb)]
     exact hn (.exit j) s' a' w' G' hq r' hc
   | ret=>exact hn .ret s' a' w' G' hq r' hc
  ·cases h
 | .loop c,ts,ts',x,h=>by
  simp only [trC] at h
  split at h
  ·rename_i u ks kh kt rr hkl
   split at h
   ·rename_i x1 ts1 h1
    cases h
    obtain ⟨l1,k1⟩:=iN hE hft hmix c _ ts' x1 h1
    simp only at l1 k1
    refine ⟨l1,fun {B w0 ext σ0 G s a w Q Qm} hnp r hcl hk hn=>?_⟩
    simp only [aev] at hk
    obtain ⟨s1,h2,r1,c1⟩:=aA9 r (Clean.up hcl l1) hk
    refine xS (fun n a w=>∃ G s,Rel F B np w0 ext σ0 G s a w∧(∀ h,Clean ts.at_ h s)∧yW (gV ks kh kt ts.at_ ts'.at_) (aev E x1) Q n s) ⟨G,s1,r1,c1,h2⟩ fun n a w hI=>?_
    obtain ⟨G,s,r,hcl,hk⟩:=hI
    cases n with
    | zero=>exact hk.elim
    | succ n =>
     refine k1 hnp r hcl hk fun e s' a' w' G' hq r' hc=>?_
     cases e with
     | normal =>
      obtain ⟨s2,h3,r2,c2⟩:=aA9 r' hc hq
      exact ⟨n,Nat.lt_succ_self n,G',s2,r2,c2,h3⟩
     | exit j=>exact hn (.exit j) s' a' w' G' hq r' hc
     | ret=>exact hn .ret s' a' w' G' hq r' hc
   ·cases h
  ·rename_i α S rr hkl
   split at h
   ·rename_i x1 ts1 h1
    cases h
    obtain ⟨l1,k1⟩:=iN hE hft hmix c _ ts' x1 h1
    simp only at l1 k1
    refine ⟨l1,fun {B w0 ext σ0 G s a w Q Qm} hnp r hcl hk hn=>?_⟩
    simp only [aev] at hk
    obtain ⟨I,μ,hs,hround⟩:=hk
    obtain ⟨x,h2,r1,c1⟩:=sI r (Clean.up hcl l1) hs
    refine xS (fun n a w=>∃ G y,Rel F B np w0 ext σ0 G (xF (S y)) a w∧(∀ h,Clean ts.at_ h (xF (S y)))∧I y∧μ y=n) ⟨G,x,r1,c1,h2,rfl⟩ fun n a w hI=>?_
    obtain ⟨G,y,r,hcl,hy,rfl⟩:=hI
    refine k1 hnp r hcl (hround y hy) fun e s' a' w' G' hq r' hc=>?_
    cases e with
    | normal =>
     obtain ⟨z,⟨h3,h4⟩,r2,c2⟩:=sI r' hc hq
     exact ⟨μ z,h4,G',z,r2,c2,h3,rfl⟩
    | exit j=>exact hn (.exit j) s' a' w' G' hq r' hc
    | ret=>exact hn .ret s' a' w' G' hq r' hc
   ·cases h
  ·cases h
 | .rangeFunc ..,ts,ts',x,h=>by
  simp only [trC,Option.some.injEq,Prod.mk.injEq] at h
  obtain ⟨rfl,rfl⟩:=h
  exact ⟨Nat.le_refl _,fun _ _ _ hk _=>by simp only [aev] at hk⟩
 | .scope c,ts,ts',x,h=>by
  simp only [trC] at h
  obtain ⟨l1,k1⟩:=iN hE hft hmix c ts ts' x h
  refine ⟨l1,fun {B w0 ext σ0 G s a w Q Qm} hnp r hcl hk hn=>wp_scope_straight (k1 hnp r hcl hk fun e s' a' w' G' hq r' hc=>?_)⟩
  have:=hn e s' a' w' G' hq r' hc
  cases e <;> exact this
 | .label l,ts,ts',x,h=>by
  simp only [trC,Option.some.injEq,Prod.mk.injEq] at h
  obtain ⟨rfl,rfl⟩:=h
  exact ⟨Nat.le_refl _,fun _ r hcl hk hn=>wp_label (hn .normal _ _ _ _ hk r hcl)⟩
 | .goto ..,ts,ts',x,h=>by
  simp only [trC,Option.some.injEq,Prod.mk.injEq] at h
  obtain ⟨rfl,rfl⟩:=h
  exact ⟨Nat.le_refl _,fun _ _ _ hk _=>by simp only [aev] at hk⟩
 | .refuse ..,ts,ts',x,h=>by
  simp only [trC,Option.some.injEq,Prod.mk.injEq] at h
  obtain ⟨rfl,rfl⟩:=h
  exact ⟨Nat.le_refl _,fun _ _ _ hk _=>by simp only [aev] at hk⟩
end
section
variable {E:Env}
theorem sY {kill kh kt:List Nat} {lo hi:Nat} {s:St} {K K':St→Prop} (h:∀ s,K s→K' s) (hk:gV kill kh kt lo hi s K):gV kill kh kt lo hi s K':=by
 unfold gV at hk ⊢
 generalize (jG lo hi (aAD lo hi (kills kill s.fr)) || iX lo hi (mD s.hp kh) || jI lo hi (kL s.tk kt))=b at hk ⊢
 cases b with
 | true=>exact hk.elim
 | false=>exact h _ hk
theorem sP {kill kh kt:List Nat} {lo hi:Nat} {s:St} {K:St→Prop} (hk:gV kill kh kt lo hi s K):∃ s',K s':=by
 unfold gV at hk
 generalize (jG lo hi (aAD lo hi (kills kill s.fr)) || iX lo hi (mD s.hp kh) || jI lo hi (kL s.tk kt))=b at hk
 cases b with
 | true=>exact hk.elim
 | false=>exact ⟨_,hk⟩
theorem aIB (hE:fU E) {o:AO} {s:St} {K:St→Prop} (h:gOp E o s K):∃ s',K s':=by
 rw [hY] at h
 obtain ⟨v,u,h⟩:=yJ hE h
 exact ⟨_,h⟩
theorem nZ (hE:fU E):∀ {l:List AO} {s:St} {K:St→Prop},l9 E l s K→∃ s',K s'
 | [],s,_,h=>⟨s,h⟩
 | _::_,_,_,h=>let ⟨_,h1⟩:=aIB hE h; nZ hE h1
theorem dT {b:Bool} {p p':Prop} (f:p→p') (h:Br b p False):Br b p' False:=by
 cases b with
 | true=>exact f h
 | false=>exact h.elim
theorem bG {d d':D} {k k':Prop} (f:k→k') (h:dI d d' k):dI d d' k':=by
 cases d' <;> cases d <;> simp only [dI] at h ⊢ <;> first | exact f h | exact h.elim | exact ⟨h.1,f h.2⟩ | exact dT (And.imp id f) h | exact dT (And.imp id (And.imp id f)) h | exact dT (And.imp id (And.imp id (And.imp id f))) h | exact dT f h | exact dT (And.imp id (And.imp id (And.imp id (And.imp id f)))) h | exact dT (And.imp id (And.imp id (And.imp id (And.imp id (And.imp id f))))) h
theorem j8:∀ {l l':List D} {k k':Prop},(k→k')→mO l l' k→mO l l' k'
 | [],[],_,_,f,h=>f h
 | _::_,_::_,_,_,f,h=>bG (j8 f) h
 | [],_::_,_,_,_,h=>h.elim
 | _::_,[],_,_,_,h=>h.elim
theorem aFU {d d':D} {k k':Prop} (f:k→k') (h:aH7 d d' k):aH7 d d' k':=by
 cases d' with
 | agg l' =>
  cases d with
  | agg l=>exact j8 f h
  | _=>exact h.elim
 | int a b=>exact (bG (d:=d) (d':=.int a b) f h:dI d (.int a b) k')
 | bool a=>exact (bG (d:=d) (d':=.bool a) f h:dI d (.bool a) k')
 | str a=>exact (bG (d:=d) (d':=.str a) f h:dI d (.str a) k')
 | tup a=>exact (bG (d:=d) (d':=.tup a) f h:dI d (.tup a) k')
 | slice a b c e=>exact (bG (d:=d) (d':=.slice a b c e) f h:dI d (.slice a b c e) k')
 | ptr a b=>exact (bG (d:=d) (d':=.ptr a b) f h:dI d (.ptr a b) k')
 | eptr a=>exact (bG (d:=d) (d':=.eptr a) f h:dI d (.eptr a) k')
 | nilp=>exact (bG (d:=d) (d':=.nilp) f h:dI d (.nilp) k')
 | ubool=>exact (bG (d:=d) (d':=.ubool) f h:dI d (.ubool) k')
 | fn a b=>exact (bG (d:=d) (d':=.fn a b) f h:dI d (.fn a b) k')
 | dead=>exact (bG (d:=d) (d':=.dead) f h:dI d (.dead) k')
 | mp a b c e=>exact (bG (d:=d) (d':=.mp a b c e) f h:dI d (.mp a b c e) k')
 | mref a=>exact (bG (d:=d) (d':=.mref a) f h:dI d (.mref a) k')
 | newp a=>exact (bG (d:=d) (d':=.newp a) f h:dI d (.newp a) k')
 | arr a b c e=>exact (bG (d:=d) (d':=.arr a b c e) f h:dI d (.arr a b c e) k')
 | msl a b c=>exact (bG (d:=d) (d':=.msl a b c) f h:dI d (.msl a b c) k')
 | rptr a b c e g=>exact (bG (d:=d) (d':=.rptr a b c e g) f h:dI d (.rptr a b c e g) k')
 | nilm=>exact (bG (d:=d) (d':=.nilm) f h:dI d (.nilm) k')
 | obj a b c e g i j=>exact (bG (d:=d) (d':=.obj a b c e g i j) f h:dI d (.obj a b c e g i j) k')
 | oref a b c=>exact (bG (d:=d) (d':=.oref a b c) f h:dI d (.oref a b c) k')
 | oagg a b c e=>exact (bG (d:=d) (d':=.oagg a b c e) f h:dI d (.oagg a b c e) k')
 | osl a b c=>exact (bG (d:=d) (d':=.osl a b c) f h:dI d (.osl a b c) k')
 | mit a b c e g i=>exact (bG (d:=d) (d':=.mit a b c e g i) f h:dI d (.mit a b c e g i) k')
 | kseq a b c e=>exact (bG (d:=d) (d':=.kseq a b c e) f h:dI d (.kseq a b c e) k')
theorem gY:∀ {l l':List D} {k k':Prop},(k→k')→oU l l' k→oU l l' k'
 | [],[],_,_,f,h=>f h
 | _::_,_::_,_,_,f,h=>aFU (gY f) h
 | [],_::_,_,_,_,h=>h.elim
 | _::_,[],_,_,_,h=>h.elim
theorem iZ:∀ {l l':List (List D)} {k k':Prop},(k→k')→s3 l l' k→s3 l l' k'
 | [],[],_,_,f,h=>f h
 | _::_,_::_,_,_,f,h=>j8 (iZ f) h
 | [],_::_,_,_,_,h=>h.elim
 | _::_,[],_,_,_,h=>h.elim
theorem aA8 {hp:Nat→Option (Bool×List D)}:∀ {l:List (Nat×Bool×List D)} {k k':Prop},(k→k')→hpK hp l k→hpK hp l k'
 | [],_,_,f,h=>f h
 | (i,b,cs)::l,_,_,f,h=>by
  simp only [hpK] at h ⊢
  split at h
  ·exact dT (j8 (aA8 f)) h
  ·exact h.elim
theorem aBT {tk:Nat→Option (Nat×Nat)}:∀ {l:List (Nat×Nat×Nat)} {k k':Prop},(k→k')→tkK tk l k→tkK tk l k'
 | [],_,_,f,h=>f h
 | (i,z,n)::l,_,_,f,h=>by
  simp only [tkK] at h ⊢
  split at h
  ·exact dT (And.imp id (aBT f)) h
  ·exact h.elim
theorem aBE {α:Type} {S:α→Tm} {lo hi:Nat} {s:St} {k k':α→Prop} (f:∀ x,k x→k' x) (h:lP S lo hi s k):lP S lo hi s k':=by
 obtain ⟨x,h⟩:=h
 refine ⟨x,?_⟩
 generalize (jG lo hi (S x).fr || iX lo hi (S x).hp || jI lo hi (S x).tk)=b at h ⊢
 cases b with
 | true=>exact h
 | false=>exact gY (aA8 (aBT (f x))) h
theorem jZ {α:Type} {S:α→Tm} {lo hi:Nat} {s:St} {k:α→Prop} (h:lP S lo hi s k):∃ x,k x:=by
 obtain ⟨x,h⟩:=h
 generalize (jG lo hi (S x).fr || iX lo hi (S x).hp || jI lo hi (S x).tk)=b at h
 cases b with
 | true=>exact h.elim
 | false=>exact ⟨x,(wG (vN (dY h).2).2).2⟩
theorem qW (hE:fU E) {s:St} {K K':St→Prop} (h:∀ s,K s→K' s):∀ {l:List (List AO)},rD E l s K→rD E l s K'
 | [],hk=>hk.elim
 | [_],hk=>nX hE h hk
 | _::_::_,hk=>⟨nX hE h hk.1,qW hE h hk.2⟩
theorem eD (hE:fU E):∀ (x:AC) {Q Q':AE→St→Prop} {s:St},(∀ e s,Q e s→Q' e s)→aev E x Q s→aev E x Q' s
 | .skip,_,_,_,h,hk=>h _ _ hk
 | .exit _,_,_,_,h,hk=>h _ _ hk
 | .ret,_,_,_,h,hk=>h _ _ hk
 | .region ops,_,_,_,h,hk=>nX hE (fun s hs=>h _ s hs) hk
 | .orders l,_,_,_,h,hk=>qW hE (fun s hs=>h _ s hs) hk
 | .seq a b,Q,Q',s,h,hk=>eD hE a (fun e s' hs=>by
   cases e with
   | normal=>exact eD hE b h hs
   | exit j=>exact h _ _ hs
   | ret=>exact h _ _ hs) hk
 | .cond c t e,Q,Q',s,h,hk=>by
  simp only [aev] at hk ⊢
  cases hv:c.ev s.fr with
  | bool b =>
   rw [hv] at hk
   cases b with
   | true=>exact eD hE t h hk
   | false=>exact eD hE e h hk
  | ubool =>
   rw [hv] at hk
   exact ⟨eD hE t h hk.1,eD hE e h hk.2⟩
  | _=>rw [hv] at hk; exact hk.elim
 | .block id c,Q,Q',s,h,hk=>eD hE c (fun e s' hs=>by
   cases e with
   | normal=>exact h _ _ hs
   | exit j =>
    simp only [aJL] at hs ⊢
    generalize Nat.beq j id=b at hs ⊢
    cases b with
    | true=>exact h _ _ hs
    | false=>exact h _ _ hs
   | ret=>exact h _ _ hs) hk
 | .loop n ks kh kt lo hi c,Q,Q',s,h,hk=>by
  have key:∀ n s,yW (gV ks kh kt lo hi) (aev E c) Q n s→yW (gV ks kh kt lo hi) (aev E c) Q' n s:=by
   intro n
   induction n with
   | zero=>exact fun s h=>h
   | succ n ih =>
    intro s hs
    refine eD hE c (fun e s' he=>?_) hs
    cases e with
    | normal=>exact sY ih he
    | exit j=>exact h _ _ he
    | ret=>exact h _ _ he
  simp only [aev] at hk ⊢
  exact sY (key n) hk
 | .loopT α S lo hi c,Q,Q',s,h,hk=>by
  simp only [aev] at hk ⊢
  obtain ⟨I,μ,h1,h2⟩:=hk
  refine ⟨I,μ,h1,fun y hy=>eD hE c (fun e s' he=>?_) (h2 y hy)⟩
  cases e with
  | normal=>exact he
  | exit j=>exact h _ _ he
  | ret=>exact h _ _ he
 | .thaw i t,Q,Q',s,h,hk=>by
  simp only [aev] at hk ⊢
  unfold aCR at hk ⊢
  cases hs:aEX i t s with
  | none=>rw [hs] at hk; exact hk.elim
  | some s'=>rw [hs] at hk; exact h _ _ hk
 | .frz t,Q,Q',s,h,hk=>by
  simp only [aev] at hk ⊢
  unfold aH4 at hk ⊢
  cases hs:aJ1 t s with
  | none=>rw [hs] at hk; exact hk.elim
  | some ps=>rw [hs] at hk; exact ⟨hk.1,h _ _ hk.2⟩
 | .toObj np va t,Q,Q',s,h,hk=>by
  simp only [aev] at hk ⊢
  unfold tZ at hk ⊢
  cases hs:zJ np va t s with
  | none=>rw [hs] at hk; exact hk.elim
  | some ps=>rw [hs] at hk; exact h _ _ hk
 | .adopt i id j,Q,Q',s,h,hk=>by
  simp only [aev] at hk ⊢
  unfold wS at hk ⊢
  split
  ·rename_i cs hi
   rw [hi] at hk
   simp only at hk
   split
   ·rename_i z n g hd
    rw [hd] at hk
    exact dT (h _ _) hk
   ·rename_i hno
    split at hk
    ·rename_i z n g hd
     exact (hno z n g hd).elim
    ·exact hk
  ·rename_i hno
   split at hk
   ·rename_i cs hi
    exact (hno cs hi).elim
   ·exact hk
 | .joinT α S a b,Q,Q',s,h,hk=>by
  simp only [aev] at hk ⊢
  obtain ⟨I,h1,h2⟩:=hk
  refine ⟨I,eD hE a (fun e s' he=>?_) h1,fun y hy=>eD hE b h (h2 y hy)⟩
  cases e with
  | normal=>exact he
  | exit j=>exact h _ _ he
  | ret=>exact h _ _ he
 | .cut α S,Q,Q',s,h,hk=>by
  simp only [aev] at hk ⊢
  exact aBE (fun x hx=>h _ _ hx) hk
theorem eV (hE:fU E):∀ (x:AC) {Q:AE→St→Prop} {s:St},aev E x Q s→∃ e s',Q e s'
 | .skip,_,_,hk=>⟨_,_,hk⟩
 | .exit _,_,_,hk=>⟨_,_,hk⟩
 | .ret,_,_,hk=>⟨_,_,hk⟩
 | .region ops,_,_,hk=>let ⟨_,h⟩:=nZ hE hk; ⟨_,_,h⟩
 | .orders [],_,_,hk=>hk.elim
 | .orders [l],_,_,hk=>let ⟨_,h⟩:=nZ (l:=l) hE hk; ⟨_,_,h⟩
 | .orders (l::_::_),_,_,hk=>let ⟨_,h⟩:=nZ (l:=l) hE hk.1; ⟨_,_,h⟩
 | .seq a b,Q,s,hk=>by
  obtain ⟨e,s',h⟩:=eV hE a hk
  cases e with
  | normal=>exact eV hE b h
  | exit j=>exact ⟨_,_,h⟩
  | ret=>exact ⟨_,_,h⟩
 | .cond c t e,Q,s,hk=>by
  simp only [aev] at hk
  cases hv:c.ev s.fr with
  | bool b =>
   rw [hv] at hk
   cases b with
   | true=>exact eV hE t hk
   | false=>exact eV hE e hk
  | ubool =>
   rw [hv] at hk
   exact eV hE t hk.1
  | _=>rw [hv] at hk; exact hk.elim
 | .block id c,Q,s,hk=>by
  obtain ⟨e,s',h⟩:=eV hE c hk
  cases e with
  | normal=>exact ⟨_,_,h⟩
  | exit j =>
   simp only [aJL] at h
   generalize Nat.beq j id=b at h
   cases b with
   | true=>exact ⟨_,_,h⟩
   | false=>exact ⟨_,_,h⟩
  | ret=>exact ⟨_,_,h⟩
 | .loop n ks kh kt lo hi c,Q,s,hk=>by
  have key:∀ n s,yW (gV ks kh kt lo hi) (aev E c) Q n s→∃ e s',Q e s':=by
   intro n
   induction n with
   | zero=>exact fun s h=>h.elim
   | succ n ih =>
    intro s hs
    obtain ⟨e,s',h⟩:=eV hE c hs
    cases e with
    | normal =>
     obtain ⟨s2,h2⟩:=sP h
     exact ih s2 h2
    | exit j=>exact ⟨_,_,h⟩
    | ret=>exact ⟨_,_,h⟩
  simp only [aev] at hk
  obtain ⟨s2,h2⟩:=sP hk
  exact key n s2 h2
 | .loopT α S lo hi c,Q,s,hk=>by
  simp only [aev] at hk
  obtain ⟨I,μ,h1,h2⟩:=hk
  obtain ⟨x,hx⟩:=jZ h1
  have key:∀ n x,μ x=n→I x→∃ e s',Q e s':=by
   intro n
   induction n using Nat.strongRecOn with
   | _ n ih =>
    intro x hn hx
    obtain ⟨e,s',h⟩:=eV hE c (h2 x hx)
    cases e with
    | normal =>
     obtain ⟨z,h3,h4⟩:=jZ h
     exact ih (μ z) (by omega) z rfl h3
    | exit j=>exact ⟨_,_,h⟩
    | ret=>exact ⟨_,_,h⟩
  exact key _ x rfl hx
 | .thaw i t,Q,s,hk=>by
  simp only [aev] at hk
  unfold aCR at hk
  cases hs:aEX i t s with
  | none=>rw [hs] at hk; exact hk.elim
  | some s'=>rw [hs] at hk; exact ⟨_,_,hk⟩
 | .frz t,Q,s,hk=>by
  simp only [aev] at hk
  unfold aH4 at hk
  cases hs:aJ1 t s with
  | none=>rw [hs] at hk; exact hk.elim
  | some ps=>rw [hs] at hk; exact ⟨_,_,hk.2⟩
 | .toObj np va t,Q,s,hk=>by
  simp only [aev] at hk
  unfold tZ at hk
  cases hs:zJ np va t s with
  | none=>rw [hs] at hk; exact hk.elim
  | some ps=>rw [hs] at hk; exact ⟨_,_,hk⟩
 | .adopt i id j,Q,s,hk=>by
  simp only [aev] at hk
  unfold wS at hk
  split at hk
  ·split at hk
   ·exact ⟨_,_,(b7 hk).2⟩
   ·exact hk.elim
  ·exact hk.elim
 | .joinT α S a b,Q,s,hk=>by
  simp only [aev] at hk
  obtain ⟨I,h1,h2⟩:=hk
  obtain ⟨e,s',h⟩:=eV hE a h1
  cases e with
  | normal =>
   obtain ⟨x,hx⟩:=jZ h
   exact eV hE b (h2 x hx)
  | exit j=>exact ⟨_,_,h⟩
  | ret=>exact ⟨_,_,h⟩
 | .cut α S,Q,s,hk=>by
  simp only [aev] at hk
  obtain ⟨x,hx⟩:=jZ hk
  exact ⟨_,_,hx⟩
theorem lS {tk:Nat→Option (Nat×Nat)} {v:D} {k:D→(Nat→Option (Nat×Nat))→Prop} (h:gN tk v k):∃ d tk',k d tk'∧∀ k',k' d tk'→gN tk v k':=by
 cases v with
 | slice t z n g =>
  cases t with
  | own i =>
   cases hi:tk i with
   | none =>
    have e:∀ k',gN tk (.slice (.own i) z n g) k'=k' (.slice .ro z n g) tk:=fun k'=>by simp only [gN,hi]
    rw [e] at h
    exact ⟨_,_,h,fun k' h'=>by rw [e]; exact h'⟩
   | some p =>
    obtain ⟨z',n'⟩:=p
    cases hb:Nat.beq z z' with
    | false =>
     simp only [gN,hi,hb,cond_false] at h
    | true =>
     have e:∀ k',gN tk (.slice (.own i) z n g) k'=(n'=n∧k' (.slice (.own 0) z n g) (fun j=>bif Nat.beq j i then none else tk j)):=fun k'=>by simp only [gN,hi,hb,cond_true]
     rw [e] at h
     exact ⟨_,_,h.2,fun k' h'=>by rw [e]; exact ⟨h.1,h'⟩⟩
  | ro=>exact ⟨_,_,h,fun k' h'=>h'⟩
  | full=>exact ⟨_,_,h,fun k' h'=>h'⟩
 | _=>exact ⟨_,_,h,fun k' h'=>h'⟩
end
section
variable {P:Program} {F:Nat→FuncId} {B np:Nat} {w0 w w':World} {ext:List Nat} {σ0:Og} {G G':Gh} {hp:Nat→Option (Bool×List D)} {tk0 tk tk':Nat→Option (Nat×Nat)}
theorem aIH (m:Mem F B np w0 ext σ0 G hp tk0 w) {t:TypeId} {g:Bool} {n:Nat} (hg:bY P t=some g) (hn:cA P t=some n) (hgn:(g || n==1)=true) {id off:Nat} {f:Bool} {cs:List D} (hi:hp id=some (f,cs)) (hs:(f || aI cs)=true) {v:D} {u:Upd}
  (h:(cC g n (cs.drop off)).holds v u):∃ x,(loadVar t ⟨G.β id,off,none⟩).run P w=.ok x w∧Rd F G tk0 x v:=by
 obtain ⟨h1,rfl,rfl⟩:=eX h
 obtain ⟨val,h2⟩:=m.var_cell hi hs
 rw [List.length_drop] at h1
 exact tO (F:=F) (G:=G) (tk:=tk0) (w:=w) hg hn hgn (l:=cs.drop off) (by rw [List.length_drop]; exact h1) (b:=G.β id) (o:=off) (fun j=>val (off+j)) (fun j hj=>(h2 (off+j) (by omega)).1)
  (fun j hj=>by rw [hO]; exact (h2 (off+j) (by omega)).2)
def aIP:D→Bool
 | .newp _=>false
 | .arr _ _ _ _=>false
 | _=>true
theorem aDD (m:Mem F B np w0 ext σ0 G hp tk0 w) (hsub:∀ i e,tk i=some e→tk0 i=some e) {x:Value} {v:D} (hx:Rd F G tk0 x v) {k:D→(Nat→Option (Nat×Nat))→Prop} (h:gN tk v k) (hB:∀ i e b,tk0 i=some e→bT G hp tk0 b (.inr i)→B≤b) :
  ∃ d tk',k d tk'∧(∀ i e,tk' i=some e→tk i=some e)∧tC G.σ w B x d∧(∀ b,dB x d b→∃ i,tk' i=none∧(∃ e,tk i=some e)∧bT G hp tk0 b (.inr i))∧aIP d=true:=by
 have plain:∀ {d:D},Rp G.σ x d.pure1→(∀ q z n g,d≠.slice (.own q) z n g)→(∀ c,d≠.agg c)→(∀ l,d≠.newp l)→(∀ f z n g,d≠.arr f z n g)→k d tk→∃ d tk',k d tk'∧(∀ i e,tk' i=some e→tk i=some e)∧tC G.σ w B x d∧(∀ b,dB x d b→∃ i,tk' i=none∧(∃ e,tk i=some e)∧bT G hp tk0 b (.inr i))∧aIP d=true:=by
  intro d hr hno hna hnn har hk
  refine ⟨d,tk,hk,fun i e h=>h,?_,fun b hb=>?_,?_⟩
  ·cases d with
   | slice t z n g=>cases t with
    | own q=>exact absurd rfl (hno q z n g)
    | _=>exact hr
   | agg c=>exact absurd rfl (hna c)
   | newp l=>exact absurd rfl (hnn l)
   | arr f z n g=>exact absurd rfl (har f z n g)
   | _=>exact hr
  ·obtain ⟨q,z,n,g,c,e1,_⟩:=hb
   exact absurd e1 (hno q z n g)
  ·cases d with
   | newp l=>exact absurd rfl (hnn l)
   | arr f z n g=>exact absurd rfl (har f z n g)
   | _=>rfl
 have cellPure:(∀ c,v≠.agg c)→Rp G.σ x v.pure1:=by
  intro hna
  cases hx with
  | any hx=>cases hx with
   | cell hc=>exact hc.pure1
   | agg cs l _ _=>exact absurd rfl (hna l)
  | tup vs l _ _=>exact .dead _
  | mref id=>exact .dead _
  | msl _ _ _ _ _ _ _ _=>exact .dead _
  | rptr _ _ _ _ _ _ _ _ _=>exact .dead _
  | oref _ _ _ _ _=>exact .dead _
  | oagg _ _ _ _ _ _ _=>exact .dead _
  | osl _ _ _ _ _ _ _=>exact .dead _
  | kseq _ _ _ _ _ _ _ _=>exact .dead _
 cases v with
 | slice t z n g =>
  have hro:Rp G.σ x (.slice .ro z n g):=cellPure (fun c=>by simp)
  cases t with
  | own i =>
   cases hi:tk i with
   | none =>
    simp only [gN,hi] at h
    exact plain (d:=.slice .ro z n g) hro (fun _ _ _ _=>by simp) (fun _=>by simp) (fun _=>by simp) (fun _ _ _ _=>by simp) h
   | some p =>
    obtain ⟨z',n'⟩:=p
    simp only [gN,hi] at h
    cases hb:Nat.beq z z' with
    | false=>rw [hb] at h; exact h.elim
    | true =>
     rw [hb] at h
     have:=Nat.eq_of_beq_eq_true hb
     subst this
     obtain ⟨rfl,h⟩:=h
     have hi0:=hsub _ _ hi
     have htag:=(hx.slice_inv.2 z n' hi0).2 rfl
     obtain ⟨a,c,h1,h2,h3⟩:=m.toks i z n' hi0
     rw [h1] at htag
     subst htag
     refine ⟨_,_,h,fun j e hj=>?_,⟨hro,a,c,rfl,h2,fun hn=>?_⟩,fun b hb=>?_,rfl⟩
     ·cases hji:Nat.beq j i with
      | true=>rw [hji] at hj; cases hj
      | false=>rw [hji] at hj; exact hj
     ·obtain ⟨b,cur,e,e1,e2,e3,e4⟩:=h3 hn
      exact ⟨b,cur,e,e1,e2,e3,e4,hB i _ b hi0 ⟨z,n',c,hi0,by rw [h1,e1],hn⟩⟩
     ·obtain ⟨q,z2,n2,g2,c2,e1,e2,e3⟩:=hb
      cases e2
      exact ⟨i,by simp [Nat.beq_refl],⟨_,hi⟩,z,n',c,hi0,h1,e3⟩
  | ro=>exact plain (d:=.slice .ro z n g) hro (fun _ _ _ _=>by simp) (fun _=>by simp) (fun _=>by simp) (fun _ _ _ _=>by simp) h
  | full=>exact plain (d:=.slice .ro z n g) hro (fun _ _ _ _=>by simp) (fun _=>by simp) (fun _=>by simp) (fun _ _ _ _=>by simp) h
 | agg l =>
  obtain ⟨cs,rfl,h1,h2⟩:=hx.agg_inv
  refine ⟨.agg (aM l),tk,h,fun i e h=>h,⟨cs,rfl,by rw [aO]; exact h1,fun j hj=>?_⟩,fun b hb=>?_,rfl⟩
  ·rw [aO] at hj
   rw [aU,bN]
   exact (h2 j hj).pure1
  ·obtain ⟨q,z,n,g,c,e1,_⟩:=hb
   cases e1
 | tup l=>exact plain (d:=.dead) (.dead _) (fun _ _ _ _=>by simp) (fun _=>by simp) (fun _=>by simp) (fun _ _ _ _=>by simp) h
 | ubool=>exact plain (d:=.dead) (.dead _) (fun _ _ _ _=>by simp) (fun _=>by simp) (fun _=>by simp) (fun _ _ _ _=>by simp) h
 | ptr i o=>exact plain (d:=.dead) (.dead _) (fun _ _ _ _=>by simp) (fun _=>by simp) (fun _=>by simp) (fun _ _ _ _=>by simp) h
 | eptr l=>exact plain (d:=.dead) (.dead _) (fun _ _ _ _=>by simp) (fun _=>by simp) (fun _=>by simp) (fun _ _ _ _=>by simp) h
 | fn f l=>exact plain (d:=.dead) (.dead _) (fun _ _ _ _=>by simp) (fun _=>by simp) (fun _=>by simp) (fun _ _ _ _=>by simp) h
 | dead=>exact plain (d:=.dead) (.dead _) (fun _ _ _ _=>by simp) (fun _=>by simp) (fun _=>by simp) (fun _ _ _ _=>by simp) h
 | mp va n ks vs=>exact plain (d:=.dead) (.dead _) (fun _ _ _ _=>by simp) (fun _=>by simp) (fun _=>by simp) (fun _ _ _ _=>by simp) h
 | mref i=>exact plain (d:=.dead) (.dead _) (fun _ _ _ _=>by simp) (fun _=>by simp) (fun _=>by simp) (fun _ _ _ _=>by simp) h
 | newp l=>exact plain (d:=.dead) (.dead _) (fun _ _ _ _=>by simp) (fun _=>by simp) (fun _=>by simp) (fun _ _ _ _=>by simp) h
 | arr w z n g=>exact plain (d:=.dead) (.dead _) (fun _ _ _ _=>by simp) (fun _=>by simp) (fun _=>by simp) (fun _ _ _ _=>by simp) h
 | msl i z n=>exact plain (d:=.dead) (.dead _) (fun _ _ _ _=>by simp) (fun _=>by simp) (fun _=>by simp) (fun _ _ _ _=>by simp) h
 | rptr i z n e o=>exact plain (d:=.dead) (.dead _) (fun _ _ _ _=>by simp) (fun _=>by simp) (fun _=>by simp) (fun _ _ _ _=>by simp) h
 | obj=>exact plain (d:=.dead) (.dead _) (fun _ _ _ _=>by simp) (fun _=>by simp) (fun _=>by simp) (fun _ _ _ _=>by simp) h
 | oref=>exact plain (d:=.dead) (.dead _) (fun _ _ _ _=>by simp) (fun _=>by simp) (fun _=>by simp) (fun _ _ _ _=>by simp) h
 | oagg=>exact plain (d:=.dead) (.dead _) (fun _ _ _ _=>by simp) (fun _=>by simp) (fun _=>by simp) (fun _ _ _ _=>by simp) h
 | kseq=>exact plain (d:=.dead) (.dead _) (fun _ _ _ _=>by simp) (fun _=>by simp) (fun _=>by simp) (fun _ _ _ _=>by simp) h
 | osl=>exact plain (d:=.dead) (.dead _) (fun _ _ _ _=>by simp) (fun _=>by simp) (fun _=>by simp) (fun _ _ _ _=>by simp) h
 | mit=>exact plain (d:=.dead) (.dead _) (fun _ _ _ _=>by simp) (fun _=>by simp) (fun _=>by simp) (fun _ _ _ _=>by simp) h
 | nilm=>exact plain (d:=.nilm) (cellPure fun _=>by simp) (fun _ _ _ _=>by simp) (fun _=>by simp) (fun _=>by simp) (fun _ _ _ _=>by simp) h
 | int kk n=>exact plain (d:=.int kk n) (cellPure fun _=>by simp) (fun _ _ _ _=>by simp) (fun _=>by simp) (fun _=>by simp) (fun _ _ _ _=>by simp) h
 | bool b=>exact plain (d:=.bool b) (cellPure fun _=>by simp) (fun _ _ _ _=>by simp) (fun _=>by simp) (fun _=>by simp) (fun _ _ _ _=>by simp) h
 | str b=>exact plain (d:=.str b) (cellPure fun _=>by simp) (fun _ _ _ _=>by simp) (fun _=>by simp) (fun _=>by simp) (fun _ _ _ _=>by simp) h
 | nilp=>exact plain (d:=.nilp) (cellPure fun _=>by simp) (fun _ _ _ _=>by simp) (fun _=>by simp) (fun _=>by simp) (fun _ _ _ _=>by simp) h
def wN (tmps:Array Value) (r:ResultVar):Sem Value :=
 match r with
 | .tmp t=>pure (tmps.getD t undef)
 | .cell a t=>do loadVar t (← asAddr (tmps.getD a undef))
theorem v8 (m:Mem F B np w0 ext σ0 G hp tk0 w) {fr:List D} {tmps:Array Value} (slots:∀ i,i < fr.length→Rd F G tk0 (tmps.getD i undef) (nth fr i .dead)) (hB:∀ i e b,tk0 i=some e→bT G hp tk0 b (.inr i)→B≤b) :
  ∀ (ms:List ResultVar) (rs:List RV) (tk:Nat→Option (Nat×Nat)) (k:List D→Prop),qB P ms=some rs→(∀ i e,tk i=some e→tk0 i=some e)→sA fr hp rs tk k →
  ∃ vals ds,(ms.mapM (wN tmps)).run P w=.ok vals w∧k ds∧vals.length=ds.length∧(∀ j,j < ds.length→tC G.σ w B (vals.getD j undef) (nth ds j .dead)) ∧
   (∀ j b,j < ds.length→dB (vals.getD j undef) (nth ds j .dead) b→∃ i,(∃ e,tk i=some e)∧bT G hp tk0 b (.inr i)) ∧
   (∀ i j b,i < ds.length→j < ds.length→dB (vals.getD i undef) (nth ds i .dead) b→dB (vals.getD j undef) (nth ds j .dead) b→i=j)∧∀ j,j < ds.length→aIP (nth ds j .dead)=true
 | [],rs,tk,k,h,_,hk=>by
  cases h
  exact ⟨[],[],by simp,hk,rfl,fun j hj=>by simp at hj,fun j b hj=>by simp at hj,fun i j b hi=>by simp at hi,fun j hj=>by simp at hj⟩
 | r::ms,rs,tk,k,h,hsub,hk=>by
  simp only [qB] at h
  cases h1:aEF P r with
  | none=>simp [h1] at h
  | some rv =>
   cases h2:qB P ms with
   | none=>simp [h1,h2] at h
   | some rs' =>
    simp only [h1,h2,Option.some.injEq] at h
    subst h
    obtain ⟨x,v,hx,hv,hk⟩:∃ x v,(wN tmps r).run P w=.ok x w∧Rd F G tk0 x v∧gN tk v (fun v tk=>sA fr hp rs' tk fun vs=>k (v::vs)):=by
     cases r with
     | tmp t =>
      simp only [aEF,Option.some.injEq] at h1
      subst h1
      refine ⟨tmps.getD t undef,nth fr t .dead,by simp [wN],?_,hk⟩
      by_cases ht:t < fr.length
      ·exact slots t ht
      ·rw [iE fr _ (Nat.le_of_not_lt ht)]
       exact Rd.dead _
     | cell a t =>
      simp only [aEF] at h1
      cases hg:bY P t with
      | none=>simp [hg] at h1
      | some g =>
       cases hn:cA P t with
       | none=>simp [hg,hn] at h1
       | some n =>
        simp only [hg,hn] at h1
        split at h1
        ·rename_i hgn
         cases h1
         simp only [sA] at hk
         cases hd:nth fr a .dead with
         | ptr id off =>
          rw [hd] at hk
          simp only at hk
          cases hi:hp id with
          | none=>rw [hi] at hk; exact hk.elim
          | some e =>
           obtain ⟨f,cs⟩:=e
           rw [hi] at hk
           obtain ⟨hs,hk⟩:=b7 hk
           obtain ⟨v,u,h3,h4⟩:=cK hk
           have ha:a < fr.length:=by
            rcases Nat.lt_or_ge a fr.length with h5 | h5
            ·exact h5
            ·rw [iE fr _ h5] at hd; cases hd
           have hp':=slots a ha
           rw [hd] at hp'
           have hpv:=hp'.ptr_inv
           obtain ⟨x,h5,h6⟩:=aIH (P:=P) m hg hn hgn hi hs h3
           refine ⟨x,v,?_,h6,h4⟩
           simp only [wN,Sem.run_bind,hpv,asAddr,Sem.run_pure,Result.andThen_ok,h5]
         | _=>rw [hd] at hk; exact hk.elim
        ·cases h1
    obtain ⟨d,tk',hk,hsub',hres,hown,hnn⟩:=aDD m hsub hv hk hB
    obtain ⟨vals,ds,e1,e2,e3,e4,e5,e6,e7⟩:=v8 m slots hB ms rs' tk' _ h2 (fun i e h=>hsub i e (hsub' i e h)) hk
    refine ⟨x::vals,d::ds,by simp [List.mapM_cons,hx,e1],e2,by simp [e3],fun j hj=>?_,fun j b hj hb=>?_,fun i j b hi hj hb hb'=>?_,fun j hj=>?_⟩
    rotate_right
    ·cases j with
     | zero=>exact hnn
     | succ j=>exact e7 j (by simpa using hj)
    ·cases j with
     | zero=>exact hres
     | succ j=>exact e4 j (by simpa using hj)
    ·cases j with
     | zero =>
      obtain ⟨i,_,h8,h9⟩:=hown b hb
      exact ⟨i,h8,h9⟩
     | succ j =>
      obtain ⟨i,⟨e,h8⟩,h9⟩:=e5 j b (by simpa using hj) hb
      exact ⟨i,⟨e,hsub' i e h8⟩,h9⟩
    ·have cross:∀ q,q < ds.length→dB x d b→dB (vals.getD q undef) (nth ds q .dead) b→False:=by
      intro q hq h1 h2
      obtain ⟨i1,h8,_,h9⟩:=hown b h1
      obtain ⟨i2,⟨e,h10⟩,h11⟩:=e5 q b hq h2
      have:=m.own1 b _ _ h9 h11
      simp only [Sum.inr.injEq] at this
      rw [this,h10] at h8
      cases h8
     cases i with
     | zero =>
      cases j with
      | zero=>rfl
      | succ j=>exact (cross j (by simpa using hj) hb hb').elim
     | succ i =>
      cases j with
      | zero=>exact (cross i (by simpa using hi) hb' hb).elim
      | succ j=>rw [e6 i j b (by simpa using hi) (by simpa using hj) hb hb']
theorem aEA (m:Mem F B np w0 ext σ0 G hp tk0 w) {b:Nat} {k:Nat ⊕ Nat} (h:bT G hp tk0 b k):G.φ b=none:=by
 cases hh:G.φ b with
 | none=>rfl
 | some x=>exact absurd h ((m.frn b x hh).2.1 k)
theorem aDY {s:St} (m:Mem F B np w0 ext σ0 G s.hp s.tk w) {tmps:Array Value} (slots:∀ i,i < s.fr.length→Rd F G s.tk (tmps.getD i undef) (nth s.fr i .dead)) (hB:∀ i e b,s.tk i=some e→bT G s.hp s.tk b (.inr i)→B≤b)
  {ms:List ResultVar} {rs:List RV} {ps:List Nat} (hps:∀ i,i < ext.length→i∈ps) {k:List D→Prop} (h:qB P ms=some rs) (hk:nQ rs ps s k) :
  ∃ vals ds,(ms.mapM (wN tmps)).run P w=.ok vals w∧k ds∧vals.length=ds.length∧(∀ j,j < ds.length→tC G.σ w B (vals.getD j undef) (nth ds j .dead)) ∧
   (∀ i j b,i < ds.length→j < ds.length→dB (vals.getD i undef) (nth ds i .dead) b→dB (vals.getD j undef) (nth ds j .dead) b→i=j)∧∀ j b,j < ds.length→uF (vals.getD j undef) (nth ds j .dead) b→G.φ b=none:=by
 have old:sA s.fr s.hp rs s.tk k→∃ vals ds,(ms.mapM (wN tmps)).run P w=.ok vals w∧k ds∧vals.length=ds.length∧(∀ j,j < ds.length→tC G.σ w B (vals.getD j undef) (nth ds j .dead)) ∧
   (∀ i j b,i < ds.length→j < ds.length→dB (vals.getD i undef) (nth ds i .dead) b→dB (vals.getD j undef) (nth ds j .dead) b→i=j)∧∀ j b,j < ds.length→uF (vals.getD j undef) (nth ds j .dead) b→G.φ b=none:=fun hk=>by
  obtain ⟨vals,ds,e1,e2,e3,e4,e5,e6,e7⟩:=v8 m slots hB ms rs s.tk k h (fun _ _ h=>h) hk
  refine ⟨vals,ds,e1,e2,e3,e4,e6,fun j b hj hb=>?_⟩
  rcases hb with hb | ⟨l,hb,_⟩ | ⟨f,z,n,g,c,hb,_⟩
  ·obtain ⟨i,_,ho⟩:=e5 j b hj hb
   exact aEA m ho
  ·have:=e7 j hj
   rw [hb] at this
   cases this
  ·have:=e7 j hj
   rw [hb] at this
   cases this
 unfold nQ at hk
 split at hk
 ·rename_i t
  have hms:ms=[.tmp t]:=by
   cases ms with
   | nil=>cases h
   | cons r ms =>
    simp only [qB] at h
    cases h1:aEF P r with
    | none=>simp [h1] at h
    | some rv =>
     cases h2:qB P ms with
     | none=>simp [h1,h2] at h
     | some rs' =>
      simp only [h1,h2,Option.some.injEq,List.cons.injEq] at h
      obtain ⟨rfl,rfl⟩:=h
      have e1:r=.tmp t:=by
       cases r with
       | tmp t'=>simp only [aEF,Option.some.injEq,RV.tmp.injEq] at h1; rw [h1]
       | cell a t' =>
        simp only [aEF] at h1
        split at h1
        ·split at h1 <;> cases h1
        ·cases h1
      have e2:ms=[]:=by
       cases ms with
       | nil=>rfl
       | cons r' ms' =>
        simp only [qB] at h2
        split at h2 <;> cases h2
      rw [e1,e2]
  split at hk
  ·rename_i id hd
   split at hk
   ·rename_i cs hi
    obtain ⟨hb,hk⟩:=b7 hk
    rw [Bool.and_eq_true] at hb
    obtain ⟨hs,hn⟩:=hb
    have ht:t < s.fr.length:=by
     rcases Nat.lt_or_ge t s.fr.length with h5 | h5
     ·exact h5
     ·rw [iE s.fr _ h5] at hd; cases hd
    have hv:=slots t ht
    rw [hd] at hv
    have hv:=hv.ptr_inv
    subst hms
    obtain ⟨o,h4,hh,hσ⟩:=m.vars id cs hi (bW hs)
    obtain ⟨c,e,rfl,h5,h6⟩:=hh.cells hs
    have hBb:B≤G.β id:=by
     rcases m.own2 (G.β id) (.inl id) ⟨cs,hi,.inl ⟨bW hs,rfl⟩⟩ with h7 | ⟨_,id',h7,h8⟩
     ·exact h7
     ·simp only [Sum.inl.injEq] at h7
      subst h7
      have:=hps _ h8.2
      have hcon:ps.any (Nat.beq id)=true:=List.any_eq_true.2 ⟨id,this,Nat.beq_refl id⟩
      rw [hcon] at hn
      cases hn
    refine ⟨[tmps.getD t undef],_,by simp [wN],hk,rfl,fun j hj=>?_,fun i j b hi hj _ _=>by simp at hi hj; omega,fun j b hj hb=>?_⟩
    rotate_right
    ·have:j=0:=by simpa using hj
     subst this
     rcases hb with ⟨_,_,_,_,_,hb,_⟩ | ⟨l,_,hb⟩ | ⟨_,_,_,_,_,hb,_⟩
     ·cases hb
     ·have hb:tmps.getD t undef=_:=hb
      rw [hv] at hb
      cases hb
      exact aEA m (k:=.inl id) ⟨cs,hi,.inl ⟨bW hs,rfl⟩⟩
     ·cases hb
    have:j=0:=by simpa using hj
    subst this
    refine ⟨G.β id,c,e,by simpa using hv,hBb,h4,by rw [aO]; exact h5,fun q hq=>?_,hσ⟩
    rw [aO] at hq
    rw [aU,bN]
    exact (h6 q hq).pure1
   ·exact hk.elim
  ·rename_i id z n hd
   split at hk
   ·rename_i z' n' g hi
    obtain ⟨hb,hn',hk2⟩:=b7 hk
    rw [Bool.and_eq_true] at hb
    obtain ⟨hz,hn⟩:=hb
    have:=Nat.eq_of_beq_eq_true hz
    subst this
    subst hn'
    have ht:t < s.fr.length:=by
     rcases Nat.lt_or_ge t s.fr.length with h5 | h5
     ·exact h5
     ·rw [iE s.fr _ h5] at hd; cases hd
    have hv:=slots t ht
    rw [hd] at hv
    obtain ⟨a,c,h1,h2,h3,h4⟩:=hv.msl_inv
    subst hms
    obtain ⟨a',c',hdr,hrow⟩:=m.rows id _ _ _ _ hi
    have e1:=hdr.at_
    rw [h2] at e1
    cases e1
    refine ⟨[tmps.getD t undef],_,by simp [wN],hk2,rfl,fun j hj=>?_,fun i j b hi hj _ _=>by simp at hi hj; omega,fun j b hj hb=>?_⟩
    rotate_right
    ·have:j=0:=by simpa using hj
     subst this
     rcases hb with ⟨_,_,_,_,_,hb,_⟩ | ⟨l,hb,_⟩ | ⟨_,_,_,_,c2,hb,hb2,hb3⟩
     ·cases hb
     ·cases hb
     ·cases hb
      have hb2:tmps.getD t undef=_:=hb2
      rw [h1] at hb2
      cases hb2
      exact aEA m (k:=.inl id) ⟨_,hi,.inr ⟨_,_,_,_,_,rfl,h2,hb3⟩⟩
    have:j=0:=by simpa using hj
    subst this
    refine ⟨a,c,by simpa using h1,h3,fun hc=>?_⟩
    obtain ⟨b,rfl⟩:=hdr.blk hc
    obtain ⟨hσ,o,h5,h6⟩:=hrow b rfl hc
    have hBb:B≤b:=by
     rcases m.own2 b (.inl id) ⟨_,hi,.inr ⟨_,_,_,_,c,rfl,h2,hc⟩⟩ with h7 | ⟨_,id',h7,h8⟩
     ·exact h7
     ·simp only [Sum.inl.injEq] at h7
      subst h7
      have:=hps _ h8.2
      have hcon:ps.any (Nat.beq id)=true:=List.any_eq_true.2 ⟨id,this,Nat.beq_refl id⟩
      rw [hcon] at hn
      cases hn
    exact ⟨b,rfl,hBb,hσ,o,h5,h6⟩
   ·exact hk.elim
  ·exact old hk
 ·exact old hk
end
theorem DEq.res {d d':D} (e:DEq d d') {σ:Sg} {w:World} {B:Nat} {v:Value}:(tC σ w B v d→tC σ w B v d')∧∀ b,dB v d' b→dB v d b:=by
 cases e with
 | refl=>exact ⟨fun h=>h,fun b h=>h⟩
 | dead=>exact ⟨fun _=>.dead _,fun b ⟨q,z,n,g,c,e,_⟩=>by cases e⟩
 | slice t t' z n g h ht hl he =>
  have key:Rp σ v (.slice .ro z n g)→Rp σ v (.slice .ro z n h):=fun r=>DEq.rp0 (.slice .ro .ro z n g h (.inl rfl) hl he) r
  rcases ht with rfl | rfl
  ·cases t' with
   | own q =>
    refine ⟨fun hr=>⟨key hr.1,hr.2⟩,fun b hb=>?_⟩
    obtain ⟨q',z',n',g',c,e1,e2,e3⟩:=hb
    cases e1
    exact ⟨_,_,_,g,c,rfl,e2,e3⟩
   | ro=>exact ⟨key,fun b ⟨q,z,n,g,c,e,_⟩=>by cases e⟩
   | full=>exact ⟨key,fun b ⟨q,z,n,g,c,e,_⟩=>by cases e⟩
  ·refine ⟨fun hr=>?_,fun b ⟨q,z,n,g,c,e,_⟩=>by cases e⟩
   cases t with
   | own q=>exact key hr.1
   | ro=>exact key hr
   | full=>exact key hr
 | agg l l' hl he =>
  refine ⟨fun ⟨cs,e1,e2,e3⟩=>⟨cs,e1,by rw [e2,hl],fun q hq=>(he q).rp (e3 q (by omega))⟩,fun b ⟨q,z,n,g,c,e,_⟩=>by cases e⟩
 | eptr l l' hl he=>exact ⟨fun _=>.dead _,fun b ⟨q,z,n,g,c,e,_⟩=>by cases e⟩
 | fn f l l' hl he=>exact ⟨fun _=>.dead _,fun b ⟨q,z,n,g,c,e,_⟩=>by cases e⟩
 | mp=>exact ⟨fun _=>.dead _,fun b ⟨q,z,n,g,c,e,_⟩=>by cases e⟩
 | obj=>exact ⟨fun _=>.dead _,fun b ⟨q,z,n,g,c,e,_⟩=>by cases e⟩
 | newp l l' hl he =>
  refine ⟨fun ⟨b,c,e,h1,h2,h3,h4,h5,h6⟩=>⟨b,c,e,h1,h2,h3,h4.trans hl,fun j hj=>(he j).rp (h5 j (by omega)),h6⟩,fun b ⟨q,z,n,g,c,e,_⟩=>by cases e⟩
 | arr w1 z n g h e1 e2 =>
  refine ⟨fun ⟨a,c,h1,h2,h3⟩=>⟨a,c,h1,h2,fun hc=>?_⟩,fun b ⟨q,z,n,g,c,e,_⟩=>by cases e⟩
  obtain ⟨b,b1,b2,b3,o,b4,b5⟩:=h3 hc
  exact ⟨b,b1,b2,b3,o,b4,b5.deq e1 e2⟩
theorem DEq.blk {d d':D} (e:DEq d d') {v:Value} {b:Nat} (h:uF v d' b):uF v d b:=by
 rcases h with h | ⟨l,rfl,h⟩ | ⟨w,z,n,g,c,rfl,h⟩
 ·exact .inl ((e.res (σ:=fun _ _=>none) (w:=default) (B:=0)).2 b h)
 ·cases e with
  | refl=>exact .inr (.inl ⟨_,rfl,h⟩)
  | newp l0=>exact .inr (.inl ⟨_,rfl,h⟩)
 ·obtain ⟨g',rfl,_⟩:=e.arr_inv
  exact .inr (.inr ⟨_,_,_,_,c,rfl,h⟩)
theorem DEqs.of_dead {l:List D} {d:D} (e:DEqs [.dead,d] l):∃ y,l=[.dead,y]:=by
 match l,e with
 | [],e=>exact absurd e.1 (by simp)
 | [_],e=>exact absurd e.1 (by simp)
 | _::_::_::_,e=>exact absurd e.1 (by simp)
 | [x,y],e =>
  have h1:DEq .dead x:=e.2 0
  have:x=.dead:=by cases h1 <;> rfl
  subst this
  exact ⟨y,rfl⟩
theorem DEqs.spec {l l':List D} (e:DEqs l l'):l.length=l'.length∧∀ {σ:Sg} {v:Value} (j:Nat),Rp σ v (nth l j .dead).pure1→Rp σ v (nth l' j .dead).pure1 :=
 ⟨e.1,fun j h=>(e.2 j).rp h⟩
theorem DEqs.res {l l':List D} (e:DEqs l l'):∀ {σ:Sg} {w:World} {B:Nat} {v:Value} (j:Nat),j < l'.length→(tC σ w B v (nth l j .dead)→tC σ w B v (nth l' j .dead))∧∀ b,dB v (nth l' j .dead) b→dB v (nth l j .dead) b :=
 fun j _=>(e.2 j).res
theorem DEqB.spec {l l':List (List D)} (e:DEqB l l'):l.length=l'.length∧∀ k,DEqs (l.getD k []) (l'.getD k []):=by
 induction e with
 | nil=>exact ⟨rfl,fun k=>by simpa using DEqs.refl _⟩
 | cons h _ ih =>
  refine ⟨by simp [ih.1],fun k=>?_⟩
  cases k with
  | zero=>simpa using h
  | succ k=>simpa using ih.2 k
theorem DEqs.length {l l':List D} (e:DEqs l l'):l.length=l'.length:=e.spec.1
section
variable {P:Program} {F:Nat→FuncId} {ft:FT} {E:Env} {np:Nat}
theorem aD2 (cs:List D):(bS cs=false∧aGB cs=eQ false cs)∨∃ m c va nl n ks vs,cs=[.dead,.obj m c va nl n ks vs]∧aGB cs=cs:=by
 unfold aGB
 split
 ·exact .inr ⟨_,_,_,_,_,_,_,rfl,rfl⟩
 ·rename_i h
  refine .inl ⟨?_,rfl⟩
  cases ho:bS cs with
  | false=>rfl
  | true =>
   obtain ⟨_,_,_,_,_,_,_,rfl⟩:=cG ho
   exact absurd rfl (h _ _ _ _ _ _ _)
theorem aCQ:∀ (l l':List (List D)),(vQ l l').length=l.length
 | [],_=>by simp [vQ]
 | _::l,[]=>rfl
 | _::l,_::l'=>by simp [vQ,aCQ l l']
theorem aCO:∀ (l l':List (List D)) (k:Nat),k < l.length→k < l'.length→(vQ l l').getD k []=xR (l.getD k []) (l'.getD k [])
 | [],_,_,h,_=>absurd h (Nat.not_lt_zero _)
 | _::_,[],_,_,h=>absurd h (Nat.not_lt_zero _)
 | _::_,_::_,0,_,_=>by simp [vQ]
 | _::l,_::l',k+1,h,h'=>by
  simpa [vQ] using aCO l l' k (Nat.lt_of_succ_lt_succ h) (Nat.lt_of_succ_lt_succ h')
theorem aEE {b:List D} (b':List D) (h:bS b=false):xR b b'=b:=by
 unfold xR
 cases Nat.beq (xB b') 0 with
 | true=>rfl
 | false=>exact bR h
theorem aFS (m c va:Nat) (nl:Nat→Bool) (n:Nat→Nat) (ks:Nat→Nat→ByteArray) (vs:Nat→Nat→List D) (b':List D):xR [.dead,.obj m c va nl n ks vs] b'=[.dead,.obj m (bif Nat.beq (xB b') 0 then c else xB b') va nl n ks vs]:=by
 unfold xR
 cases Nat.beq (xB b') 0 <;> rfl
theorem i5 {hp:Nat→Option (Bool×List D)}:∀ {l:List Nat} {k:List (List D)→Prop},cS hp l k→∃ bs,k bs∧bs.length=l.length∧∀ i,i < l.length→∃ cs,hp (l.getD i 0)=some (false,cs)∧okB cs=true∧bs.getD i []=aGB cs
 | [],k,h=>⟨[],h,rfl,fun i hi=>by simp at hi⟩
 | id::l,k,h=>by
  simp only [cS] at h
  split at h
  ·rename_i cs hc
   obtain ⟨hs,h⟩:=b7 h
   obtain ⟨bs,h1,h2,h3⟩:=i5 h
   refine ⟨aGB cs::bs,h1,by simp [h2],fun i hi=>?_⟩
   cases i with
   | zero=>exact ⟨cs,by simpa using hc,hs,by simp⟩
   | succ i=>simpa using h3 i (by simpa using hi)
  ·exact h.elim
theorem l6:∀ {bs:List (List D)} {i j:Nat} {x:Bool×List D},ag (nP i bs) j=some x→i≤j∧j < i+bs.length∧x=(false,bs.getD (j - i) [])
 | [],_,_,_,h=>by simp [nP,ag] at h
 | b::bs,i,j,x,h=>by
  simp only [nP,ag] at h
  cases hb:Nat.beq j i with
  | true =>
   rw [hb] at h
   have:=Nat.eq_of_beq_eq_true hb
   subst this
   cases h
   simp
  | false =>
   rw [hb] at h
   obtain ⟨h1,h2,h3⟩:=l6 h
   refine ⟨by omega,by simp only [List.length_cons]; omega,?_⟩
   rw [h3,show j - i=(j - (i+1))+1 from by omega]
   simp
theorem pO:∀ n,aGZ n=List.range n
 | 0=>rfl
 | n+1=>by rw [List.range_succ,← pO n]; rfl
theorem lD (n:Nat):(aCP n).length=n:=by
 induction n with
 | zero=>rfl
 | succ n ih=>simp [aCP,ih]
theorem yO (n j:Nat):nth (aCP n) j .dead=.dead:=by
 induction n generalizing j with
 | zero=>rfl
 | succ n ih=>cases j with
  | zero=>rfl
  | succ j=>exact ih j
def aLQ (E:Env) (af:AF) (n np:Nat):bA:=fun vs bs K=>vs.length=n∧bs.length=np∧af.runs E K vs bs
theorem nW {fr:List D} {hp:Nat→Option (Bool×List D)}:∀ {rs:List RV} {tk:Nat→Option (Nat×Nat)} {k k':List D→Prop},(∀ l,k l→k' l)→sA fr hp rs tk k→sA fr hp rs tk k'
 | [],_,_,_,h,hk=>h _ hk
 | .tmp t::l,tk,k,k',h,hk=>by
  obtain ⟨d,tk',h1,h2⟩:=lS hk
  exact h2 _ (nW (fun l hl=>h _ hl) h1)
 | .cell a g n::l,tk,k,k',h,hk=>by
  simp only [sA] at hk ⊢
  cases hd:nth fr a .dead with
  | ptr id off =>
   rw [hd] at hk
   simp only at hk ⊢
   cases hi:hp id with
   | none=>rw [hi] at hk; exact hk.elim
   | some e =>
    obtain ⟨f,cs⟩:=e
    rw [hi] at hk
    refine dT (yR (fun v u hv=>?_)) hk
    obtain ⟨d,tk',h1,h2⟩:=lS hv
    exact h2 _ (nW (fun l hl=>h _ hl) h1)
  | _=>rw [hd] at hk; exact hk.elim
theorem n8 {fr:List D} {hp:Nat→Option (Bool×List D)}:∀ {rs:List RV} {tk:Nat→Option (Nat×Nat)} {k:List D→Prop},sA fr hp rs tk k→∃ l,k l
 | [],_,_,hk=>⟨_,hk⟩
 | .tmp t::l,tk,k,hk=>by
  obtain ⟨d,tk',h1,_⟩:=lS hk
  obtain ⟨l,h⟩:=n8 h1
  exact ⟨_,h⟩
 | .cell a g n::l,tk,k,hk=>by
  simp only [sA] at hk
  cases hd:nth fr a .dead with
  | ptr id off =>
   rw [hd] at hk
   simp only at hk
   cases hi:hp id with
   | none=>rw [hi] at hk; exact hk.elim
   | some e =>
    obtain ⟨f,cs⟩:=e
    rw [hi] at hk
    obtain ⟨_,hk⟩:=b7 hk
    obtain ⟨v,u,_,hv⟩:=cK hk
    obtain ⟨d,tk',h1,_⟩:=lS hv
    obtain ⟨l,h⟩:=n8 h1
    exact ⟨_,h⟩
  | _=>rw [hd] at hk; exact hk.elim
theorem yV {rs:List RV} {ps:List Nat} {s:St} {k k':List D→Prop} (h:∀ l,k l→k' l) (hk:nQ rs ps s k):nQ rs ps s k':=by
 unfold nQ at hk ⊢
 split
 ·simp only at hk
  split
  ·rename_i hd
   rw [hd] at hk
   simp only at hk
   split
   ·rename_i hi
    rw [hi] at hk
    exact dT (h _) hk
   ·rename_i hno
    split at hk
    ·rename_i cs hi
     exact (hno cs hi).elim
    ·exact hk
  ·rename_i hd
   rw [hd] at hk
   simp only at hk
   split
   ·rename_i hi
    rw [hi] at hk
    exact dT (fun hp=>⟨hp.1,h _ hp.2⟩) hk
   ·rename_i hno
    split at hk
    ·rename_i z' n' g hi
     exact (hno z' n' g hi).elim
    ·exact hk
  ·rename_i hno hno2
   split at hk
   ·rename_i id hd
    exact (hno id hd).elim
   ·rename_i id z n hd
    exact (hno2 id z n hd).elim
   ·exact nW h hk
 ·rename_i hno
  split at hk
  ·rename_i t
   exact (hno t rfl).elim
  ·exact nW h hk
theorem aFP {rs:List RV} {ps:List Nat} {s:St} {k:List D→Prop} (hk:nQ rs ps s k):∃ l,k l:=by
 unfold nQ at hk
 split at hk
 ·split at hk
  ·split at hk
   ·exact ⟨_,(b7 hk).2⟩
   ·exact hk.elim
  ·split at hk
   ·exact ⟨_,(b7 hk).2.2⟩
   ·exact hk.elim
  ·exact n8 hk
 ·exact n8 hk
theorem jH {hp:Nat→Option (Bool×List D)}:∀ {l:List Nat} {k k':List (List D)→Prop},(∀ b,k b→k' b)→cS hp l k→cS hp l k'
 | [],_,_,h,hk=>h _ hk
 | id::l,k,k',h,hk=>by
  simp only [cS] at hk ⊢
  split
  ·rename_i cs hc
   rw [hc] at hk
   exact dT (jH (fun b hb=>h _ hb)) hk
  ·rename_i hn
   split at hk
   ·rename_i cs hc
    exact (hn cs hc).elim
   ·exact hk
theorem aJO {rs:List RV} {ps:List Nat} {K K':List D→List (List D)→Prop} (h:∀ r b,K r b→K' r b):∀ e s,RP rs ps K e s→RP rs ps K' e s:=by
 have key:∀ s:St,(nQ rs ps s fun vs=>cS s.hp ps fun bs=>aC6 K vs bs)→nQ rs ps s fun vs=>cS s.hp ps fun bs=>aC6 K' vs bs:=fun s hk =>
  yV (fun l hl=>jH (fun b ⟨vs',bs',h1,h2,h3⟩=>⟨vs',bs',h1,h2,h _ _ h3⟩) hl) hk
 intro e s hk
 cases e with
 | normal=>exact key s hk
 | exit j=>exact hk.elim
 | ret=>exact key s hk
theorem aJW {rs:List RV} {ps:List Nat} {K:List D→List (List D)→Prop} {e:AE} {s:St} (hk:RP rs ps K e s):∃ r b,K r b:=by
 have key:(nQ rs ps s fun vs=>cS s.hp ps fun bs=>aC6 K vs bs)→∃ r b,K r b:=fun hk=>by
  obtain ⟨l,h1⟩:=aFP hk
  obtain ⟨b,⟨vs',bs',_,_,h3⟩,_⟩:=i5 h1
  exact ⟨_,_,h3⟩
 cases e with
 | normal=>exact key hk
 | exit j=>exact hk.elim
 | ret=>exact key hk
end
section
variable {P:Program} {F:Nat→FuncId} {ft:FT} {E:Env} {np:Nat}
theorem aEJ (fn:Func) (tmps:Array Value):results fn tmps=(do let vs ← fn.results.mapM (wN tmps); pure (eU vs)):=by
 have:(fun r=>match r with
  | .tmp t=>pure (tmps.getD t undef)
  | .cell a t=>do loadVar t (← asAddr (tmps.getD a undef)):ResultVar→Sem Value)=wN tmps:=by
  funext r
  cases r <;> rfl
 rw [← this]
 rfl
theorem aIX {σ:Og} {w:World} {ext:List Nat} {vals:Array Value} {ds:List D} {bs:List (List D)} (h:CPre F σ w ext vals ds bs) {n more:Nat} (hn:n - vals.size=more) {np:Nat} (hnp:bs.length≤np) :
  Rel F w.heap.size np w ext σ (G0 σ ext) (init ds bs more) { tmps:=vals++Array.replicate (n - vals.size) undef,defers:=[] } w∧∀ hi,Clean np hi (init ds bs more):=by
 have hb:∀ id cs,ag (nP 0 bs) id=some (false,cs)→id < bs.length∧cs=bs.getD id []:=fun id cs hx=>by
  obtain ⟨_,h2,h3⟩:=l6 hx
  cases h3
  exact ⟨by omega,by simp⟩
 have hbt:∀ id cs,ag (nP 0 bs) id=some (true,cs)→False:=fun id cs hx=>by
  obtain ⟨_,_,h3⟩:=l6 hx
  cases h3
 have ownb:∀ b i,bT (G0 σ ext) (ag (nP 0 bs)) (fun _=>none) b (.inl i)→i < bs.length∧b=ext.getD i 0∧bS (bs.getD i [])=false:=fun b i ⟨cs,h1,h2⟩=>by
  obtain ⟨h3,h4⟩:=hb i cs h1
  have h2:Blk (G0 σ ext) i cs b:=h2
  rcases h2 with ⟨h5,h2⟩ | ⟨w1,z,n1,g,c,h5,h6,h7⟩
  ·exact ⟨h3,h2.symm,by rw [← h4]; exact bL h5⟩
  ·refine ⟨h3,?_,by rw [← h4,h5]; rfl⟩
   rcases h.blocks i h3 with ⟨z',n',g',e1,a,c',e2,_,e3,e4⟩ | ⟨_,_,_,_,_,_,e1,_⟩ | ⟨e1,_⟩
   ·rw [← h4,h5] at e1
    cases e1
    have h6:σ.η i n1=_:=h6
    rw [e2] at h6
    cases h6
    have:=(e4 h7).1
    cases this
    rfl
   ·rw [← h4,h5] at e1
    cases e1
   ·rw [← h4,h5] at e1
    cases e1
 have extinj:=h.nodup
 refine ⟨⟨rfl,?_,fun i hi=>?_,?_,fun id _=>rfl⟩,fun hi=>⟨fun i hi'=>?_,fun i f cs hx=>?_,fun i e hx=>by cases hx⟩⟩
 ·simp only [init,List.length_append,lD,Array.size_append,Array.size_replicate,h.size,← hn]
 ·simp only [init,List.length_append,lD] at hi
  simp only [init]
  rw [i4]
  split
  ·rename_i hlt
   have:(vals++Array.replicate (n - vals.size) undef).getD i undef=vals.getD i undef:=by
    simp only [Array.getD_eq_getD_getElem?]
    rw [Array.getElem?_append_left (by rw [h.size]; exact hlt)]
   rw [this]
   exact h.args i hlt
  ·rw [yO]
   exact Rd.dead _
 ·refine ⟨h.stab,fun b o _=>rfl,rfl,rfl,rfl,Nat.le_refl _,fun b _ _ _=>rfl,fun id cs hx hna=>?_,fun id fw z n g hx=>?_,fun id cs hx=>(hbt id cs hx).elim,fun i z n hx=>by simp [init] at hx,fun b k k' hk hk'=>?_,fun b k hk=>?_,fun b r hr=>(by cases hr),fun id x va n ks vs hx _=>?_,fun b x hx=>?_,fun b x hx=>⟨x.ob,hx⟩,?_,fun id x va n ks vs hx=>?_⟩
  ·obtain ⟨h1,rfl⟩:=hb id cs hx
   rcases h.blocks id h1 with ⟨z,n,g,e1,_⟩ | ⟨_,_,_,_,_,_,e1,_⟩ | ⟨h2,c,e,h3,h4,h5,h6⟩
   ·rw [e1] at hna
    cases hna
   ·rw [e1] at hna
    cases hna
   ·exact ⟨_,h3,.inl ⟨h2,c,e,rfl,h4,fun j hj=>.pure (h5 j hj).1 (by rw [(h5 j hj).2]; exact b9 _ _)⟩,h6⟩
  ·obtain ⟨h1,h2⟩:=hb id _ hx
   rcases h.blocks id h1 with ⟨z',n',g',e1,a,c,e2,e3,e4,e5⟩ | ⟨_,_,_,_,_,_,e1,_⟩ | ⟨e1,_⟩
   ·rw [← h2] at e1
    cases e1
    refine ⟨a,c,⟨e2,e3,fun m hm=>e4 m (by omega),fun _=>⟨rfl,e2⟩,fun hc=>⟨_,(e5 hc).1⟩⟩,fun b hb' hc=>?_⟩
    obtain ⟨e6,e7,o,e8,e9⟩:=e5 hc
    rw [hb'] at e6
    cases e6
    exact ⟨e7,o,e8,e9⟩
   ·rw [← h2] at e1
    cases e1
   ·rw [← h2] at e1
    cases e1
  ·cases k with
   | inr i=>obtain ⟨_,_,_,h1,_⟩:=hk; cases h1
   | inl i =>
    cases k' with
    | inr j=>obtain ⟨_,_,_,h1,_⟩:=hk'; cases h1
    | inl j =>
     obtain ⟨h1,h2,_⟩:=ownb b i hk
     obtain ⟨h3,h4,_⟩:=ownb b j hk'
     rw [extinj i j h1 h3 (h2.symm.trans h4)]
  ·cases k with
   | inr i=>obtain ⟨_,_,_,h1,_⟩:=hk; cases h1
   | inl i =>
    obtain ⟨h1,h2,_⟩:=ownb b i hk
    refine .inr ⟨?_,i,rfl,by omega,by rw [h.len]; exact h1⟩
    rw [h2]
    have:i < ext.length:=by rw [h.len]; exact h1
    simp [this]
  ·obtain ⟨h1,h2⟩:=hb id _ hx
   rcases h.blocks id h1 with ⟨z',n',g',e1,_⟩ | ⟨_,_,_,_,_,_,e1,_⟩ | ⟨e1,_⟩
   ·rw [← h2] at e1
    cases e1
   ·rw [← h2] at e1
    cases e1
   ·rw [← h2] at e1
    cases x <;> cases e1
  ·obtain ⟨g1,g2,_⟩:=h.frn b x hx
   refine ⟨.inr ⟨x.ob,hx⟩,fun k hk=>?_,g1,rfl,g2⟩
   cases k with
   | inr i=>obtain ⟨_,_,_,h1,_⟩:=hk; cases h1
   | inl i =>
    obtain ⟨h1,h2,h3⟩:=ownb b i hk
    have:=h.nofrn i h1 h3
    rw [← h2] at this
    have hx:σ.φ b=some x:=hx
    rw [this] at hx
    cases hx
  ·refine ⟨h.uniq,fun b x hx=>?_,fun i i' cs cs' e1 e2 _ _ e3=>extinj i i' (hb i cs e1).1 (hb i' cs' e2).1 e3,fun id m c va nl n ks vs hx=>?_,fun id i j b c k q hx=>?_,fun _ _ _ _ _ _ _ _ _ b x hx _=>hx⟩
   ·obtain ⟨_,_,k,hk,g1,g2⟩:=h.frn b x hx
    rw [g2]
    rcases h.blocks k hk with ⟨z',n',g',e1,_⟩ | ⟨_,_,_,_,_,_,e1,cs,ty,g3,_⟩ | ⟨e1,_⟩
    ·rw [e1] at g1
     cases g1
    ·exact ⟨_,g3⟩
    ·rw [bL (bW e1)] at g1
     cases g1
   ·obtain ⟨h1,h2⟩:=hb id _ hx
    rcases h.blocks id h1 with ⟨z',n',g',e1,_⟩ | ⟨_,_,_,_,_,_,e1,g⟩ | ⟨e1,_⟩
    ·rw [← h2] at e1
     cases e1
    ·rw [← h2] at e1
     cases e1
     obtain ⟨cs,ty,g1,g2,g3⟩:=g
     exact ⟨cs,ty,g1,g2,g3⟩
    ·rw [← h2] at e1
     cases e1
   ·exfalso
    obtain ⟨h1,h2⟩:=hb id _ hx
    rcases h.blocks id h1 with ⟨z',n',g',e1,_⟩ | ⟨_,_,_,_,_,_,e1,g⟩ | ⟨e1,_⟩
    ·rw [← h2] at e1
     cases e1
    ·rw [← h2] at e1
     cases e1
    ·rw [← h2] at e1
     cases e1
  ·exfalso
   obtain ⟨h1,h2⟩:=hb id _ hx
   rcases h.blocks id h1 with ⟨z',n',g',e1,_⟩ | ⟨_,_,_,_,_,_,e1,_⟩ | ⟨e1,_⟩
   ·rw [← h2] at e1
    cases e1
   ·rw [← h2] at e1
    cases e1
   ·rw [← h2] at e1
    cases x <;> cases e1
 ·simp only [init,List.length_append,lD] at hi'
  simp only [init]
  rw [i4]
  split
  ·rename_i hlt
   exact sK (h.clean i hlt hi) hnp (Nat.le_refl _)
  ·rw [yO]
   rfl
 ·obtain ⟨_,h2,h3⟩:=l6 hx
  cases h3
  refine ⟨by omega,?_⟩
  simp only [Nat.sub_zero]
  rcases h.blocks i (by omega) with ⟨z,n,g,e1,_⟩ | ⟨_,_,_,_,_,_,e1,_⟩ | ⟨_,c,e,_,_,h5,_⟩
  ·rw [e1]
   rfl
  ·rw [e1]
   rfl
  ·refine aX.2 fun d hd=>?_
   obtain ⟨j,hj,rfl⟩:=List.mem_iff_getElem.1 hd
   have:=(h5 j hj).2
   rw [dK _ _ hj] at this
   rw [this]
   exact cX _
theorem qA (n:Nat) (cuts:List (Nat×Σ α:Type,α→Tm)):n≤aHR n cuts:=by
 unfold aHR
 split
 ·rename_i j _ _
  cases h:(Nat.beq j 999999&&Nat.ble n 1000000) with
  | false=>exact Nat.le_refl _
  | true =>
   simp only [Bool.and_eq_true] at h
   exact Nat.le_of_ble_eq_true h.2
 ·exact Nat.le_refl _
theorem aHH (hE : EnvOk P F E) (hft : pC P F ft) (hmix : P.follows .mixedOrders = true) {f : FuncId} {fn : Func} (hf : P.funcs[f]? = some fn) (hname : (fn.name == "runtime.NumGoroutine") = false) {kills : List lT} {cuts : List (Nat × Σ α : Type,α → Tm)} {af : AF}
  (ht:trF P ft np kills cuts fn=some af):dM P F f (aLQ E af (fn.params.size+fn.nfree) np):=by
 unfold trF at ht
 cases hbd:fn.body with
 | none=>rw [hbd] at ht; cases ht
 | some c =>
  rw [hbd] at ht
  simp only at ht
  split at ht
  ·rename_i b ts' rs hc hrs
   cases ht
   refine ⟨fun args w=>?_,fun ds bs K K' hK hh=>⟨hh.1,hh.2.1,?_⟩,fun ds bs K hh=>?_,fun σ w ext vals ds bs K pre hh=>?_⟩
   ·have hname' : ¬ fn.name = "runtime.NumGoroutine" := by simpa using hname
    simp [callFunc,hf,hname',hbd]
   ·exact eD hE.mf b (aJO hK) hh.2.2
   ·obtain ⟨e,s',h⟩:=eV hE.mf b hh.2.2
    exact aJW h
   ·obtain ⟨hl,hlb,hrun⟩:=hh
    subst hlb
    obtain ⟨hle,hok⟩:=iN hE hft hmix c _ ts' b hc
    obtain ⟨r,hcl⟩:=aIX pre (n:=fn.ntmps) (more:=fn.ntmps - (fn.params.size+fn.nfree)) (by rw [pre.size,hl]) (qA bs.length cuts)
    refine calls_of_wp hf hbd (hok (Nat.le_refl _) r hcl hrun ?_)
    intro e s' a' w' G' hq r' _
    have key:(nQ rs (aGZ bs.length) s' fun vs=>cS s'.hp (aGZ bs.length) fun bs=>aC6 K vs bs)→a'.defers=[]∧∃ v,(results fn a'.tmps).run P w'=.ok v w'∧∃ vs rs bs' σ',Ending.returned v=.returned (eU vs)∧K rs bs'∧CPost σ w ext w' σ' rs bs' vs:=by
     intro hk
     have m:=r'.mem
     have hB:∀ i e b,s'.tk i=some e→bT G' s'.hp s'.tk b (.inr i)→w.heap.size≤b:=fun i e b _ ho=>by
      rcases m.own2 b _ ho with h | ⟨_,id,h,_⟩
      ·exact h
      ·cases h
     obtain ⟨vals',ds',e1,e2,e3,e4,e6,e7⟩:=aDY (P:=P) m r'.slots hB (fun i hi=>by rw [pO]; exact List.mem_range.2 (by rw [pre.len] at hi; exact hi)) hrs hk
     obtain ⟨bs2,⟨vs',bs',d1,d2,hK⟩,b1,b2⟩:=i5 e2
     obtain ⟨q1,q2⟩:=d2.spec
     have hlen:=d1.length
     rw [pO] at b1 b2
     simp only [List.length_range] at b1 b2
     rw [aCQ] at q1
     have hq:∀ k,k < bs.length→∃ cs,s'.hp k=some (false,cs)∧okB cs=true∧((bS cs=false∧DEqs (eQ false cs) (bs'.getD k []))∨∃ m c va nl n ks vs,cs=[.dead,.obj m c va nl n ks vs]∧DEqs [.dead,.obj m (bif Nat.beq (xB (bs'.getD k [])) 0 then c else xB (bs'.getD k [])) va nl n ks vs] (bs'.getD k [])):=fun k hk=>by
      obtain ⟨cs,h1,hsol,h2⟩:=b2 k hk
      have h3:(List.range bs.length).getD k 0=k:=by simp [hk]
      rw [h3] at h1
      have h8:=q2 k
      rw [aCO _ _ k (by omega) (by omega),h2] at h8
      refine ⟨cs,h1,hsol,?_⟩
      rcases aD2 cs with ⟨g1,g2⟩ | ⟨m,c,va,nl,n,ks,vs,rfl,g2⟩
      ·rw [g2,aEE] at h8
       ·exact .inl ⟨g1,h8⟩
       ·rcases bH false cs with ⟨fw,z,n,g,e1,e2⟩ | ⟨_,_,_,_,_,_,_,rfl,_⟩ | ⟨_,_,e2⟩
        ·rw [e2]; rfl
        ·cases g1
        ·rw [e2]; exact bL (bM _)
      ·rw [g2,aFS] at h8
       exact .inr ⟨_,_,_,_,_,_,_,rfl,h8⟩
     refine ⟨r'.defers,eU vals'.toArray,?_,vals'.toArray,vs',bs',G'.σ,rfl,hK,?_⟩
     ·have hm:(fn.results.mapM (wN a'.tmps)).run P w'=.ok vals'.toArray w':=by
       rw [Array.mapM_eq_mapM_toList]
       simp [e1]
      rw [aEJ]
      simp only [Sem.run_bind,hm,Result.andThen_ok,Sem.run_pure]
     ·refine ⟨m.stab,fun b o v hv=>?_,fun b o hb=>m.old b o hb,m.os,m.tape,m.output,m.base,fun b hb he hf=>m.keep b hb he hf,fun k f z n g hk1 hk2 hbk=>?_,fun k hk1 hk2 hk3'=>?_,by simp [e3,hlen],fun j hj=>?_,fun i j b hi hj ho ho'=>?_,?_⟩
      ·obtain ⟨_,c0,e0,fz0,h1,_⟩:=pre.stab b o v hv
       rw [m.old b o (Array.getElem?_eq_some_iff.1 h1).1]
       exact hv
      ·have hk3:k < bs.length:=by omega
       obtain ⟨cs,h1,hsol,⟨hno,h8⟩ | ⟨_,_,_,_,_,_,_,rfl,h8⟩⟩:=hq k hk3
       case inr =>
        rw [hbk] at h8
        obtain ⟨_,_,e0,_⟩:=h8.arr_inv
        cases e0
       rw [hbk] at h8
       obtain ⟨x,g0,e0,d3,d4⟩:=h8.arr_inv
       obtain ⟨fw,rfl⟩:∃ fw,cs=[.dead,.arr fw z n g0]:=by
        rcases bH false cs with ⟨fw,_,_,g2,rfl,h8⟩ | ⟨_,_,_,_,_,_,_,_,h8⟩ | ⟨_,_,h8⟩
        ·rw [h8] at e0
         cases e0
         exact ⟨fw,rfl⟩
        ·rw [h8] at e0
         cases e0
        ·rw [h8] at e0
         have e5:=aU cs 1
         rw [e0] at e5
         generalize nth cs 1 D.dead=d at e5
         cases d <;> simp [nth,D.pure1] at e5
       obtain ⟨a0,c0,h9,h10⟩:=m.rows k fw z n g0 h1
       refine ⟨a0,c0,(h9.mine (Nat.lt_of_lt_of_le hk3 (qA _ _))).2,fun b hb0 hc0=>?_⟩
       obtain ⟨_,o0,h11,h12⟩:=h10 b hb0 hc0
       exact ⟨o0,h11,h12.deq d3 d4⟩
      ·have hk3:k < bs.length:=by omega
       obtain ⟨cs,h1,hsol0,⟨hno,h8⟩ | ⟨_,_,_,_,_,_,_,rfl,h8⟩⟩:=hq k hk3
       case inr =>
        obtain ⟨y,e5⟩:=DEqs.of_dead h8
        rw [e5] at hk3'
        cases hk3'
       have hsol:aI cs=true:=by
        unfold okB at hsol0
        cases hh:cV cs with
        | false=>rw [hh,hno,Bool.or_false,Bool.or_false] at hsol0; exact hsol0
        | true =>
         obtain ⟨_,_,_,_,rfl⟩:=dR hh
         obtain ⟨y,e5,_⟩:=DEqs.of_arr (h8:DEqs [.dead,.arr _ _ _ _] _)
         rw [e5] at hk3'
         cases hk3'
       rw [u4 (bW hsol)] at h8
       obtain ⟨o0,h4,hh0,_⟩:=m.vars k cs h1 (bW hsol)
       obtain ⟨c0,e0,rfl,h5,h6⟩:=hh0.cells hsol
       have h7:=r'.par k (Nat.lt_of_lt_of_le hk3 (qA _ _))
       rw [h7] at h4
       refine ⟨c0,e0,h4,by rw [h5,← h8.length,aO],fun j hj=>?_⟩
       rw [← h8.length,aO] at hj
       refine h8.spec.2 j ?_
       rw [aU,bN]
       exact (h6 j hj).pure1
      ·have h1:=e4 j (by omega)
       have h2:=(d1.res (σ:=G'.σ) (w:=w') (B:=w.heap.size) (v:=vals'.getD j undef) j (by omega)).1 h1
       simpa [bI] using h2
      ·have h1:=(d1.res (σ:=G'.σ) (w:=w') (B:=w.heap.size) (v:=vals'.getD i undef) i (by omega)).2 b (by simpa [bI] using ho)
       have h2:=(d1.res (σ:=G'.σ) (w:=w') (B:=w.heap.size) (v:=vals'.getD j undef) j (by omega)).2 b (by simpa [bI] using ho')
       exact e6 i j b (by omega) (by omega) h1 h2
      ·-- the objects
       have hσlt:∀ b x,σ.φ b=some x→b < w.heap.size:=fun b x hx=>(Array.getElem?_eq_some_iff.1 (pre.frn b x hx).2.1).1
       have hφ:∀ b x,(match G'.φ b with | some x=>if x.id < w.heap.size then some x else none | none=>none)=some x↔G'.φ b=some x∧x.id < w.heap.size:=fun b x=>by
        cases hg:G'.φ b with
        | none=>simp
        | some y =>
         simp only [Option.ite_none_right_eq_some,Option.some.injEq]
         constructor
         ·rintro ⟨h1,rfl⟩
          exact ⟨rfl,h1⟩
         ·rintro ⟨rfl,h1⟩
          exact ⟨h1,rfl⟩
       have hid:∀ b x,σ.φ b=some x→x.id < w.heap.size:=fun b x hx=>by
        obtain ⟨_,_,k,hk,g1,g2⟩:=pre.frn b x hx
        rw [g2]
        rcases pre.blocks k hk with ⟨z',n',g',e1,_⟩ | ⟨_,_,_,_,_,_,e1,cs,ty,g3,_⟩ | ⟨e1,_⟩
        ·rw [e1] at g1
         cases g1
        ·exact hσlt _ _ g3
        ·rw [bL (bW e1)] at g1
         cases g1
       refine ⟨fun b=>match G'.φ b with | some x=>if x.id < w.heap.size then some x else none | none=>none,fun b x hx=>?_,fun b x hx=>?_,fun b x hx=>?_,fun b x hx=>?_,fun b b' x x' hx hx'=>?_,fun k m1 c va nl n ks vs hk1 hk2 hbk ho=>?_,fun j b hj hb=>?_,fun k m1 va nl n ks vs hk1 hk2 hbk b x hx hxk=>?_⟩
       ·obtain ⟨o,h1⟩:=m.omono b x hx
        exact ⟨o,(hφ b _).2 ⟨h1,hid b x hx⟩⟩
       ·obtain ⟨h1,_⟩:=(hφ b x).1 hx
        rcases (m.frn b x h1).1 with h2 | h2
        ·exact .inr h2
        ·exact .inl h2
       ·obtain ⟨h1,_⟩:=(hφ b x).1 hx
        obtain ⟨_,_,h2,_,h3⟩:=m.frn b x h1
        exact ⟨h3,h2⟩
       ·obtain ⟨h1,h2⟩:=(hφ b x).1 hx
        obtain ⟨o,h3⟩:=m.obs.hdr b x h1
        rcases (m.frn _ _ h3).1 with h4 | h4
        ·omega
        ·exact h4
       ·exact m.obs.uniq b b' x x' ((hφ b x).1 hx).1 ((hφ b' x').1 hx').1
       ·have hk3:k < bs.length:=by omega
        obtain ⟨cs,h1,hsol0,⟨hno,h8⟩ | ⟨m2,c2,va2,nl2,n2,ks2,vs3,rfl,h8⟩⟩:=hq k hk3
        ·exfalso
         rw [hbk] at h8
         obtain ⟨nl',n',ks',vs2,h9,_⟩:=(show DEq _ (.obj m1 c va nl n ks vs) from h8.2 1).obj_inv
         rcases bH false cs with ⟨_,_,_,_,_,e5⟩ | ⟨_,_,_,_,_,_,_,rfl,_⟩ | ⟨_,_,e5⟩
         ·rw [e5] at h9
          cases h9
         ·cases hno
         ·rw [e5,aU] at h9
          generalize nth cs 1 D.dead=dd at h9
          cases dd <;> cases h9
        ·rw [hbk] at h8
         obtain ⟨nl',n',ks',vs2,h9,k1,k2,k3,k4⟩:=(show DEq _ (.obj m1 c va nl n ks vs) from h8.2 1).obj_inv
         simp only [nth,D.obj.injEq] at h9
         obtain ⟨rfl,_,rfl,rfl,rfl,rfl,rfl⟩:=h9
         have g:=m.obs.objs k _ _ _ _ _ _ _ h1
         have h10:=r'.par k (Nat.lt_of_lt_of_le hk3 (qA _ _))
         rw [h10] at g
         obtain ⟨o,ho⟩:=ho
         have hlt:=hσlt _ _ ho
         exact (g.deq k1 k2 k3 k4).trans (SgLe.refl _) fun k2 y hyi=>⟨fun hy=>(hφ _ _).2 ⟨hy,by rw [hyi]; exact hlt⟩,fun hy=>((hφ _ _).1 hy).1⟩
       ·have h1:=e7 j b (by omega) (by
         have:=(d1.2 j).blk hb
         simpa [bI] using this)
        simp only [h1]
       ·have hk3:k < bs.length:=by omega
        obtain ⟨cs,h1,hsol0,⟨hno,h8⟩ | ⟨m2,c2,va2,nl2,n2,ks2,vs3,rfl,h8⟩⟩:=hq k hk3
        ·exfalso
         rw [hbk] at h8
         obtain ⟨nl',n',ks',vs2,h9,_⟩:=(show DEq _ (.obj m1 0 va nl n ks vs) from h8.2 1).obj_inv
         rcases bH false cs with ⟨_,_,_,_,_,e5⟩ | ⟨_,_,_,_,_,_,_,rfl,_⟩ | ⟨_,_,e5⟩
         ·rw [e5] at h9
          cases h9
         ·cases hno
         ·rw [e5,aU] at h9
          generalize nth cs 1 D.dead=dd at h9
          cases dd <;> cases h9
        ·rw [hbk] at h8
         obtain ⟨nl',n',ks',vs2,h9,_⟩:=(show DEq _ (.obj m1 0 va nl n ks vs) from h8.2 1).obj_inv
         have e0:c2=0:=by
          simp only [nth,xB,Nat.beq,cond_true] at h9
          cases h9
          rfl
         subst e0
         have hlt:k < aHR bs.length cuts:=Nat.lt_of_lt_of_le hk3 (qA _ _)
         exact (hφ _ _).2 ⟨m.obs.orig _ _ _ _ _ _ _ hlt h1 b x hx (by rw [r'.par k hlt]; exact hxk),hid b x hx⟩
    cases e with
    | normal=>exact key hq
    | exit j=>exact hq.elim
    | ret=>exact key hq
  ·cases ht
end
section
variable {P:Program} {F:Nat→FuncId} {ft:FT} {E:Env} {np:Nat} {f:FuncId}
theorem mN:∀ {bs:List (List D)} {k:Nat},rZ bs=true→k < bs.length→okB (bs.getD k [])=true
 | [],k,_,hk=>by simp at hk
 | b::bs,0,h,_=>by simp only [rZ,Bool.and_eq_true] at h; exact h.1
 | b::bs,k+1,h,hk=>by
  simp only [rZ,Bool.and_eq_true] at h
  have:=mN h.2 (k:=k) (by simpa using hk)
  simpa using this
theorem CPre.deq {σ:Og} {w:World} {ext:List Nat} {vals:Array Value} {ds ds':List D} {bs bs':List (List D)} (h:CPre F σ w ext vals ds bs) (e:DEqs ds ds') (eb:DEqB bs bs') (hs:rZ bs'=true):CPre F σ w ext vals ds' bs':=by
 obtain ⟨hl,hb⟩:=eb.spec
 have kind:∀ k,k < bs'.length→bS (bs.getD k [])=bS (bs'.getD k []):=fun k hk=>by
  have d:=hb k
  have hok:=mN hs hk
  cases h1:bS (bs.getD k []) with
  | true =>
   obtain ⟨m,c,va,nl,n,ks,vs,h2⟩:=cG h1
   rw [h2] at d
   obtain ⟨y,h3⟩:=d.of_dead
   rw [h3] at d hok ⊢
   have d1:DEq (.obj m c va nl n ks vs) y:=d.2 1
   cases d1 with
   | refl=>rfl
   | dead=>cases hok
   | obj=>rfl
  | false =>
   cases h2:bS (bs'.getD k []) with
   | false=>rfl
   | true =>
    exfalso
    obtain ⟨m,c,va,nl,n,ks,vs,h3⟩:=cG h2
    rw [h3] at d
    obtain ⟨_,_,_,_,h4,_⟩:=(show DEq _ (.obj m c va nl n ks vs) from d.2 1).obj_inv
    rcases h.blocks k (by omega) with ⟨_,_,_,h5,_⟩ | ⟨_,_,_,_,_,_,h5,_⟩ | ⟨h5,_⟩
    ·rw [h5] at h4
     cases h4
    ·rw [h5] at h1
     cases h1
    ·have hlen:1 < (bs.getD k []).length:=by
      rw [d.1]
      simp
     have:=gQ h5 _ (List.getElem_mem hlen)
     have h6:=pE h5 hlen
     rw [h4] at h6
     simp [aI] at h6
 refine ⟨h.stab,h.size.trans e.1,fun j hj=>(e.2 j).rd (h.args j (by rw [e.1]; exact hj)),fun j hj q=>by rw [← hl]; exact (e.2 j).names (h.clean j (by rw [e.1]; exact hj) q),h.len.trans hl,fun i j hi hj=>h.nodup i j (by omega) (by omega),fun b x hx=>?_,h.uniq,fun k hk ho=>h.nofrn k (by omega) (by rw [kind k hk]; exact ho),fun k hk=>?_⟩
 ·obtain ⟨g1,g2,k,hk,g3,g4⟩:=h.frn b x hx
  exact ⟨g1,g2,k,by omega,by rw [← kind k (by omega)]; exact g3,g4⟩
 have d:=hb k
 have hok:=mN hs hk
 rcases h.blocks k (by rw [hl]; exact hk) with ⟨z,n,g,h1,a,c,h2,h3,h4,h5⟩ | ⟨m,va,nl,n,ks,vs,h1,hob⟩ | ⟨h1,c,e',h2,h3,h4,h5⟩
 ·rw [h1] at d
  obtain ⟨y,e1,e2⟩:=d.of_arr
  rw [e1] at hok
  have hy:∃ g',y=.arr false z n g'∧(∀ i,i < n→(g i).length=(g' i).length)∧∀ i,i < n→∀ j,DEq (nth (g i) j .dead) (nth (g' i) j .dead):=by
   cases e2 with
   | refl=>exact ⟨g,rfl,fun _ _=>rfl,fun _ _ _=>.refl _⟩
   | dead=>cases hok
   | arr _ _ _ _ g' e3 e4=>exact ⟨g',rfl,e3,e4⟩
  obtain ⟨g',rfl,e3,e4⟩:=hy
  refine .inl ⟨z,n,g',e1,a,c,h2,h3,h4,fun hc=>?_⟩
  obtain ⟨h6,h7,o,h8,h9⟩:=h5 hc
  exact ⟨h6,h7,o,h8,h9.deq e3 e4⟩
 ·have ho:=kind k hk
  rw [h1] at ho
  obtain ⟨m',c',va',nl',n',ks',vs',h2⟩:=cG ho.symm
  rw [h1,h2] at d
  obtain ⟨nl0,n0,ks0,vs0,h3,k1,k2,k3,k4⟩:=(show DEq (.obj m 0 va nl n ks vs) (.obj m' c' va' nl' n' ks' vs') from d.2 1).obj_inv
  cases h3
  refine .inr (.inl ⟨_,_,_,_,_,_,h2,?_⟩)
  exact ObjAt.deq hob k1 k2 k3 k4
 ·have hsol:aI (bs'.getD k [])=true:=by
   unfold okB at hok
   cases hh:cV (bs'.getD k []) with
   | false =>
    have ho:=kind k hk
    rw [bL (bW h1)] at ho
    rw [hh,← ho,Bool.or_false,Bool.or_false] at hok
    exact hok
   | true =>
    obtain ⟨_,_,_,_,e1⟩:=dR hh
    rw [e1] at d
    obtain ⟨x,g,e2,_⟩:=d.arr_inv
    rw [e2] at h1
    cases x <;> cases h1
  refine .inr (.inr ⟨hsol,c,e',h2,h3.trans d.1,fun j hj=>?_,h5⟩)
  obtain ⟨h6,h7⟩:=h4 j (by rw [d.1]; exact hj)
  exact ⟨(d.2 j).rp0 h6,(d.2 j).pure h6 h7⟩
theorem aLP {rs:List RV} {ps:List Nat} {vs':List D} {bs':List (List D)} {K:List D→List (List D)→Prop} (hK:K vs' bs'):∀ e s,RG rs ps vs' bs' e s→RP rs ps K e s:=by
 have key:∀ s:St,(nQ rs ps s fun vs=>cS s.hp ps fun bs=>oU vs vs' (s3 (vQ bs bs') bs' True))→nQ rs ps s fun vs=>cS s.hp ps fun bs=>aC6 K vs bs:=fun s hk =>
  yV (fun l hl=>jH (fun b hb=>⟨vs',bs',(dY hb).1,(fT (dY hb).2).1,hK⟩) hl) hk
 intro e s hk
 cases e with
 | normal=>exact key s hk
 | exit j=>exact hk.elim
 | ret=>exact key s hk
structure Gv (p:Prop):Prop where
 ok:p
theorem Gv.of {p q:Prop} (e:p=q) (h:q):Gv p:=⟨e.mpr h⟩
theorem j6 (hE : EnvOk P F E) (hft : pC P F ft) (hmix : P.follows .mixedOrders = true) {fn : Func} (hf : P.funcs[f]? = some fn) (hname : (fn.name == "runtime.NumGoroutine") = false) {α : Type} [Inhabited α] {kills : α → List lT} {cuts : α → List (Nat × Σ β : Type,β → Tm)} {af : α → AF}
  (ht:∀ a,trF P ft np (kills a) (cuts a) fn=some (af a)) {args:α→List D} {blks:α→List (List D)} {pre:α→Prop} {res:α→List D} {blks':α→List (List D)} (hn:∀ a,(args a).length=fn.params.size+fn.nfree) (hb:∀ a,(blks a).length=np)
  (hok:∀ a,pre a→Gv ((af a).gives E (args a) (blks a) (res a) (blks' a))):dM P F f (FnC args blks pre res blks'):=by
 refine ⟨(aHH hE hft hmix hf hname (ht default)).enter,fun ds bs K K' hK hh=>?_,fun ds bs K hh=>?_,fun σ w ext vals ds bs K cp hh=>?_⟩
 ·obtain ⟨a,hh⟩:=hh
  exact ⟨a,dT (gY (iZ fun ⟨h1,h2⟩=>⟨h1,hK _ _ h2⟩)) hh⟩
 ·obtain ⟨a,hh⟩:=hh
  exact ⟨_,_,(fT (dY (b7 hh).2).2).2.2⟩
 ·obtain ⟨a,hh⟩:=hh
  obtain ⟨h1,h2⟩:=b7 hh
  obtain ⟨h3,h4⟩:=dY h2
  obtain ⟨h5,h6,h7⟩:=fT h4
  exact (aHH hE hft hmix hf hname (ht a)).calls σ w ext vals _ _ K (cp.deq h3 h5 h1) ⟨hn a,hb a,eD hE.mf _ (aLP h7) (hok a h6).ok⟩
theorem fO (hF:∀ j q,F (j+1000 * q)=F j):EnvOk P F []:=⟨hF,fun j C h=>by simp [ag] at h⟩
theorem aI5 {j:Nat} {C:bA} (h:COk P F (F j) C) (hE:EnvOk P F E):EnvOk P F ((j,C)::E):=⟨hE.1,fun i C' h'=>by
 simp only [ag] at h'
 cases hb:Nat.beq i j with
 | true =>
  rw [hb] at h'
  have:=Nat.eq_of_beq_eq_true hb
  subst this
  cases h'
  exact h
 | false =>
  rw [hb] at h'
  exact hE.2 i C' h'⟩
theorem cU {j:Nat} {C:bA} (h:dM P F (F j) C) (hE:EnvOk P F E):EnvOk P F ((j,C)::E):=aI5 (.inl h) hE
theorem aLZ {j q:Nat} {C:bA} (h:dM P F (F j) C) (hE:EnvOk P F E):EnvOk P F ((j+1000 * q,C)::E):=cU (by rw [hE.1]; exact h) hE
theorem aLS {j:Nat} {C:bA} (h:aLR P F (F j) C) (hE:EnvOk P F E):EnvOk P F ((j,C)::E):=aI5 (.inr h) hE
theorem aLW {j : Nat} (hE : EnvOk P F E) (hft : pC P F ft) (hmix : P.follows .mixedOrders = true) {fn : Func} (hf : P.funcs[F j]? = some fn) (hname : (fn.name == "runtime.NumGoroutine") = false) {α : Type} [Inhabited α] {kills : α → List lT} {cuts : α → List (Nat × Σ β : Type,β → Tm)} {af : α → AF}
  (ht:∀ a,trF P ft np (kills a) (cuts a) fn=some (af a)) {args:α→List D} {blks:α→List (List D)} {pre:α→Prop} {res:α→List D} {blks':α→List (List D)} (mu:α→Nat) (hn:∀ a,(args a).length=fn.params.size+fn.nfree) (hb:∀ a,(blks a).length=np)
  {En:Nat→Env} (hEn:∀ n,En n=(j,FnC args blks (fun a=>pre a∧mu a < n) res blks')::E)
  (hok:∀ n a,pre a→mu a < n+1→Gv ((af a).gives (En n) (args a) (blks a) (res a) (blks' a))):dM P F (F j) (FnC args blks pre res blks'):=by
 have key:∀ n,dM P F (F j) (FnC args blks (fun a=>pre a∧mu a < n) res blks'):=by
  intro n
  induction n with
  | zero=>exact j6 hE hft hmix hf hname ht hn hb fun a h=>absurd h.2 (Nat.not_lt_zero _)
  | succ n ih=>exact j6 (hEn n ▸ cU ih hE) hft hmix hf hname ht hn hb fun a h=>hok n a h.1 h.2
 refine ⟨(key 0).enter,fun ds bs K K' hK hh=>?_,fun ds bs K hh=>?_,fun σ w ext vals ds bs K cp hh=>?_⟩
 ·obtain ⟨a,hh⟩:=hh
  exact ⟨a,dT (gY (iZ fun ⟨h1,h2⟩=>⟨h1,hK _ _ h2⟩)) hh⟩
 ·obtain ⟨a,hh⟩:=hh
  exact ⟨_,_,(fT (dY (b7 hh).2).2).2.2⟩
 ·obtain ⟨a,hh⟩:=hh
  exact (key (mu a+1)).calls σ w ext vals ds bs K cp ⟨a,dT (gY (iZ fun ⟨h1,h2⟩=>⟨⟨h1,Nat.lt_succ_self _⟩,h2⟩)) hh⟩
end
structure Codec (α:Type) where
 len:Nat
 enc:α→List D
 ok:α→Prop
 size:α→Nat
def aBB:Codec Bool:=⟨1,fun b=>[.bool b],fun _=>True,fun _=>1⟩
def aCK (k:IntKind):Codec Int:=⟨1,fun n=>[.int k n],fun n=>(Lit.int k n).wf=true,fun _=>1⟩
def aBG:Codec UInt8:=⟨1,fun n=>[.int .u8 (n.toNat:Int)],fun _=>True,fun _=>1⟩
def aMI:Codec UInt8:=aBG
def aH8:Codec ByteArray:=⟨1,fun s=>[.str s],fun _=>True,fun s=>s.size+1⟩
def iG {α:Type} [Inhabited α] (C:Codec α):Codec (List α):=⟨1,fun l=>[.slice .ro C.len l.length (gl C.enc l)],fun l=>∀ a∈l,C.ok a,fun l=>(l.map C.size).sum+1⟩
def kS {α β:Type} (C:Codec α) (D:Codec β):Codec (α×β):=⟨C.len+D.len,fun a=>C.enc a.1++D.enc a.2,fun a=>C.ok a.1∧D.ok a.2,fun a=>C.size a.1+D.size a.2⟩
def aAX {α:Type} (C:Codec α):Codec α:=⟨C.len,C.enc,C.ok,fun a=>C.size a+1⟩
def σOf (w:World):Sg:=fun b o=>match w.heap[b]? with
 | some (.cells c _ _)=>match c[o]? with
  | some v=>if v.oneCell' then some v else none
  | none=>none
 | _=>none
structure aGE (H:Type) where
 one:DataW H→Nat
 all:List (DataW H)→Nat
 str:∀ bs,one (.lit (.string bs))=bs.length+1
 pos:∀ d,1≤one d
 slice:∀ e s,one (.slice e s)=all e+all s+1
 agg:∀ ps,one (.agg ps)=all ps+1
 nil:all []=0
 cons:∀ d r,all (d::r)=one d+all r
structure Codec.Data {α:Type} (C:Codec α):Prop where
 len:∀ a,(C.enc a).length=C.len
 pure:∀ a,∀ d∈C.enc a,d=d.pure1∧d≠.dead
structure gH {α:Type} (P:Program) (t:TypeId) (C:Codec α):Prop where
 data:C.Data
 cells:P.cellsOf t=C.len
 read:∀ {H:Type} (eH:TypeId×Value→H) (B:aGE H) (w:World) (base:Nat) (spare:Nat→Bool) (fuel:Nat) (cs:List Value) (x:DataW H×List MemPlace),DataW.trod eH P w base spare true fuel t cs=some x →
  ∃ a,C.ok a∧C.size a≤B.one x.1∧cs.length=C.len∧∀ j,j < C.len→Rp (σOf w) (cs.getD j undef) (nth (C.enc a) j .dead)
structure uP {α:Type} (P:Program) (l:List (TypeId×Nat)) (off:Nat) (C:Codec α):Prop where
 data:C.Data
 read:∀ {H:Type} (eH:TypeId×Value→H) (B:aGE H) (w:World) (base:Nat) (spare:Nat→Bool) (n:Nat) (cs:List Value) (xs:List (DataW H×List MemPlace)),xs.length=l.length →
  (∀ (i:Nat) (f:TypeId×Nat),l[i]? = some f→DataW.trod eH P w base spare true n f.1 ((cs.drop f.2).take (P.cellsOf f.1))=xs[i]?) →
  ∃ a,C.ok a∧C.size a≤B.all (xs.map (·.1))∧∀ j,j < C.len→Rp (σOf w) (cs.getD (off+j) undef) (nth (C.enc a) j .dead)
section
variable {P:Program} {t:TypeId} {α β:Type}
theorem Rp.oneCell {σ:Sg} {v:Value} {d:D} (h:Rp σ v d) (hd:d≠.dead):v.oneCell'=true:=by
 cases h <;> first | rfl | exact absurd rfl hd
theorem Codec.Data.nth {C:Codec α} (h:C.Data) (a:α) {j:Nat} (hj:j < C.len):nth (C.enc a) j .dead=(Abs.nth (C.enc a) j .dead).pure1∧Abs.nth (C.enc a) j .dead≠.dead:=by
 have hj':j < (C.enc a).length:=by rw [h.len]; exact hj
 rw [dK _ _ hj']
 exact h.pure a _ (List.getElem_mem hj')
theorem aGQ:aBB.Data:=⟨fun _=>rfl,fun a d h=>by simp [aBB] at h; subst h; exact ⟨rfl,fun h=>by cases h⟩⟩
theorem aH6 (k:IntKind):(aCK k).Data:=⟨fun _=>rfl,fun a d h=>by simp [aCK] at h; subst h; exact ⟨rfl,fun h=>by cases h⟩⟩
theorem aGC:aBG.Data:=⟨fun _=>rfl,fun a d h=>by simp [aBG] at h; subst h; exact ⟨rfl,fun h=>by cases h⟩⟩
theorem aIN:aH8.Data:=⟨fun _=>rfl,fun a d h=>by simp [aH8] at h; subst h; exact ⟨rfl,fun h=>by cases h⟩⟩
theorem aDI [Inhabited α] (C:Codec α):(iG C).Data:=⟨fun _=>rfl,fun a d h=>by simp [iG] at h; subst h; exact ⟨rfl,fun h=>by cases h⟩⟩
theorem aF8 {C:Codec α} {D:Codec β} (h:C.Data) (k:D.Data):(kS C D).Data:=⟨fun a=>by simp [kS,h.len,k.len],fun a d hd=>by
 simp only [kS,List.mem_append] at hd
 rcases hd with hd | hd
 ·exact h.pure _ _ hd
 ·exact k.pure _ _ hd⟩
theorem aC3 {C:Codec α} (h:C.Data):(aAX C).Data:=⟨h.len,h.pure⟩
theorem aKQ (ht:P.underlying t=some .bool) (hc:P.cellsOf t=1):gH P t aBB:=⟨aGQ,hc,fun eH B w base spare fuel cs x h=>by
 obtain ⟨b,rfl,rfl⟩:=DataW.trod_bool ht h
 refine ⟨b,trivial,B.pos _,rfl,fun j hj=>?_⟩
 have:j=0:=by simp only [aBB] at hj; omega
 subst this
 exact .bool b⟩
theorem aG3 {k:IntKind} (ht:P.underlying t=some (.int k)) (hc:P.cellsOf t=1):gH P t (aCK k):=⟨aH6 k,hc,fun eH B w base spare fuel cs x h=>by
 obtain ⟨n,rfl,rfl,hw⟩:=DataW.trod_int ht h
 refine ⟨n,hw,B.pos _,rfl,fun j hj=>?_⟩
 have:j=0:=by simp only [aCK] at hj; omega
 subst this
 exact .int k n⟩
theorem aK1 (ht:P.underlying t=some (.int .u8)) (hc:P.cellsOf t=1):gH P t aBG:=⟨aGC,hc,fun eH B w base spare fuel cs x h=>by
 obtain ⟨n,rfl,rfl,hw⟩:=DataW.trod_int ht h
 have hb:0≤n∧n≤255:=by
  simp [Lit.wf,IntKind.min,IntKind.max,IntKind.signed,IntKind.bits] at hw
  omega
 refine ⟨UInt8.ofNat n.toNat,trivial,B.pos _,rfl,fun j hj=>?_⟩
 have:j=0:=by simp only [aBG] at hj; omega
 subst this
 have e:((UInt8.ofNat n.toNat).toNat:Int)=n:=by rw [UInt8.toNat_ofNat']; omega
 show Rp (σOf w) (.int .u8 n) (.int .u8 ((UInt8.ofNat n.toNat).toNat:Int))
 rw [e]
 exact .int .u8 n⟩
theorem aGA (ht:P.underlying t=some .string) (hc:P.cellsOf t=1):gH P t aH8:=⟨aIN,hc,fun eH B w base spare fuel cs x h=>by
 obtain ⟨s,rfl,rfl,hw⟩:=DataW.trod_string ht h
 refine ⟨s,trivial,?_,rfl,fun j hj=>?_⟩
 ·rw [B.str,Array.length_toList]
  exact Nat.le_refl _
 ·have:j=0:=by simp only [aH8] at hj; omega
  subst this
  exact .str s⟩
theorem aCW {a:Addr} (h:a.spot=none) (n:Nat):a.add n=⟨a.block,a.off+n,none⟩:=by
 unfold Addr.add
 cases a
 simp only at h
 subst h
 split
 ·rename_i h; subst h; rfl
 ·rfl
theorem aC1 {p:Nat→α→Prop} [Inhabited α] (n:Nat) (h:∀ i,i < n→∃ a,p i a):∃ l:List α,l.length=n∧∀ i,i < n→p i (l.getD i default):=by
 induction n with
 | zero=>exact ⟨[],rfl,fun i hi=>by omega⟩
 | succ n ih =>
  obtain ⟨l,h1,h2⟩:=ih fun i hi=>h i (by omega)
  obtain ⟨a,ha⟩:=h n (by omega)
  refine ⟨l++[a],by simp [h1],fun i hi=>?_⟩
  rcases Nat.lt_or_ge i n with h3 | h3
  ·have:=h2 i h3
   rw [List.getD_eq_getElem?_getD] at this ⊢
   rw [List.getElem?_append_left (by omega)]
   exact this
  ·have:i=n:=by omega
   subst this
   rw [List.getD_eq_getElem?_getD,List.getElem?_append_right (by omega)]
   simp only [h1,Nat.sub_self,List.getElem?_cons_zero,Option.getD_some]
   exact ha
theorem aGU {w:World} {b o:Nat} {v:Value} (h:w.cell? ⟨b,o,none⟩=some v) (h1:v.oneCell'=true):σOf w b o=some v:=by
 unfold World.cell? at h
 unfold σOf
 simp only at h
 split at h
 ·rename_i c e fz hh
  simp only [Option.isSome_none,Bool.false_eq_true,if_false] at h
  rw [hh]
  simp only [h,h1,if_true]
 ·cases h
theorem aFD {H:Type} (B:aGE H) {C:Codec α} [Inhabited α]:∀ (l:List α) (xs:List (DataW H×List MemPlace)),l.length=xs.length→(∀ i,i < l.length→∃ x,xs[i]? = some x∧C.size (l.getD i default)≤B.one x.1)→(l.map C.size).sum≤B.all (xs.map (·.1))
 | [],[],_,_=>by simp [B.nil]
 | [],_::_,h,_=>by simp at h
 | _::_,[],h,_=>by simp at h
 | a::l,x::xs,hl,h=>by
  have h0:=h 0 (by simp)
  obtain ⟨y,hy,h0⟩:=h0
  simp only [List.getElem?_cons_zero,Option.some.injEq] at hy
  subst hy
  have ih:=aFD B (C:=C) l xs (by simpa using hl) fun i hi=>by
   obtain ⟨x,h1,h2⟩:=h (i+1) (by simpa using hi)
   exact ⟨x,by simpa using h1,by simpa using h2⟩
  simp only [List.map_cons,List.sum_cons,B.cons]
  have h0':C.size a≤B.one x.1:=by simpa using h0
  omega
theorem s7 [Inhabited α] {e:TypeId} {C:Codec α} (ht:P.underlying t=some (.slice e)) (hc:P.cellsOf t=1) (he:gH P e C) (hp:0 < C.len):gH P t (iG C):=⟨aDI C,hc,fun eH B w base spare fuel cs x h=>by
 rcases DataW.trod_slice ht h with ⟨rfl,rfl⟩ | ⟨a,len,cap,elems,rest,n,_,rfl,rfl,_,hlc,_,hlen,hel,_,_⟩
 ·refine ⟨[],fun a ha=>by simp at ha,by simpa [iG] using B.pos _,rfl,fun j hj=>?_⟩
  have:j=0:=by simp only [iG] at hj; omega
  subst this
  exact .slice none 0 0 .ro C.len (gl C.enc []) 0 0 (fun _ _=>undef) (Nat.le_refl _) (fun h=>absurd rfl h) (fun i hi=>by omega) (fun i j hi=>by omega) (fun i j hi=>by omega)
 ·have hspot0:0 < len→a.spot=none:=fun hi=>by
   have h1:=hel 0 hi
   have h2:elems[0]? = some elems[0]:=List.getElem?_eq_getElem (by omega)
   rw [h2,Option.bind_eq_some_iff] at h1
   obtain ⟨cs',h3,h4⟩:=h1
   obtain ⟨_,_,_,h7,_⟩:=he.read eH B w base spare n cs' _ h4
   have:=(World.cells?_some h3).2.2 0 (by rw [he.cells]; exact hp)
   rw [Nat.zero_mul,List.getElem?_eq_getElem (by omega)] at this
   unfold World.cell? Addr.add at this
   simp only [if_true] at this
   split at this
   ·cases hs:a.spot with
    | none=>rfl
    | some s=>simp [hs] at this
   ·cases this
  have each:∀ i,i < len→∃ b:α,C.ok b∧(∃ x,elems[i]? = some x∧C.size b≤B.one x.1)∧a.spot=none∧∀ j,j < C.len→∃ v,w.cell? ⟨a.block,a.off+i * C.len+j,none⟩=some v∧Rp (σOf w) v (nth (C.enc b) j .dead):=by
   intro i hi
   have hspot:=hspot0 (by omega)
   have h1:=hel i hi
   have h2:elems[i]? = some elems[i]:=List.getElem?_eq_getElem (by omega)
   rw [h2,Option.bind_eq_some_iff] at h1
   obtain ⟨cs',h3,h4⟩:=h1
   obtain ⟨b,h5,h6,h7,h8⟩:=he.read eH B w base spare n cs' _ h4
   rw [he.cells,aCW hspot] at h3
   have h9:∀ j,j < C.len→w.cell? ⟨a.block,a.off+i * C.len+j,none⟩=cs'[j]?:=by
    intro j hj
    have:=(World.cells?_some h3).2.2 j hj
    rw [aCW (by rfl)] at this
    exact this
   refine ⟨b,h5,⟨_,h2,h6⟩,hspot,fun j hj=>⟨cs'.getD j undef,?_,h8 j hj⟩⟩
   have:=h9 j hj
   rw [this,List.getD_eq_getElem?_getD,List.getElem?_eq_getElem (by omega)]
   rfl
  obtain ⟨l,h1,h2⟩:=aC1 len each
  refine ⟨l,fun b hb=>?_,?_,rfl,fun j hj=>?_⟩
  ·obtain ⟨i,hi,rfl⟩:=List.mem_iff_getElem.1 hb
   have:=(h2 i (by omega)).1
   rw [List.getD_eq_getElem?_getD,List.getElem?_eq_getElem hi] at this
   exact this
  ·have:=aFD B (C:=C) l elems (by omega) fun i hi=>(h2 i (by omega)).2.1
   simp only [iG,B.slice]
   omega
  ·have:j=0:=by simp only [iG] at hj; omega
   subst this
   have hd:∀ i,i < len→(gl C.enc l i).length=C.len:=fun i _=>he.data.len _
   simp only [iG,nth,h1]
   have ex:∀ i j,∃ v,i < len→j < C.len→w.cell? ⟨a.block,a.off+i * C.len+j,none⟩=some v∧Rp (σOf w) v (nth (C.enc (l.getD i default)) j .dead):=by
    intro i j
    by_cases hi:i < len
    ·by_cases hj:j < C.len
     ·obtain ⟨v,hv⟩:=(h2 i hi).2.2.2 j hj
      exact ⟨v,fun _ _=>hv⟩
     ·exact ⟨undef,fun _ h=>absurd h hj⟩
    ·exact ⟨undef,fun h _=>absurd h hi⟩
   let val:Nat→Nat→Value:=fun i j=>Classical.choose (ex i j)
   have hval:∀ i j,i < len→j < C.len→w.cell? ⟨a.block,a.off+i * C.len+j,none⟩=some (val i j)∧Rp (σOf w) (val i j) (nth (C.enc (l.getD i default)) j .dead):=fun i j=>Classical.choose_spec (ex i j)
   refine .slice (some a) len cap .ro C.len (gl C.enc l) a.block a.off val hlc (fun hn=>?_) hd (fun i j hi hj=>?_) (fun i j hi hj=>?_)
   ·have:=(h2 0 (by omega)).2.2.1
    cases a
    simp only at this
    subst this
    rfl
   ·obtain ⟨e1,e2⟩:=hval i j hi hj
    exact aGU e1 (e2.oneCell (he.data.nth _ hj).2)
   ·exact (hval i j hi hj).2.pure1⟩
theorem xM {C:Codec α} {off:Nat} (h:gH P t C):uP P [(t,off)] off C:=⟨h.data,fun eH B w base spare n cs xs hl hx=>by
 match xs,hl with
 | [x],_ =>
  have h0:=hx 0 _ rfl
  simp only [List.getElem?_cons_zero] at h0
  obtain ⟨a,h1,h2,h3,h4⟩:=h.read eH B w base spare n _ x h0
  refine ⟨a,h1,by simp only [List.map_cons,List.map_nil,B.cons,B.nil]; omega,fun j hj=>?_⟩
  have:=h4 j hj
  simpa [List.getD_eq_getElem?_getD,List.getElem?_take,List.getElem?_drop,h.cells,hj] using this⟩
theorem pG {C:Codec α} {D:Codec β} {l:List (TypeId×Nat)} {off:Nat} (h:gH P t C) (k:uP P l (off+C.len) D):uP P ((t,off)::l) off (kS C D):=⟨aF8 h.data k.data,fun eH B w base spare n cs xs hl hx=>by
 match xs,hl with
 | x::xs,hl =>
  have h0:=hx 0 _ rfl
  simp only [List.getElem?_cons_zero] at h0
  obtain ⟨a,h1,h2,h3,h4⟩:=h.read eH B w base spare n _ x h0
  obtain ⟨b,k1,k2,k3⟩:=k.read eH B w base spare n cs xs (by simpa using hl) fun i f hf=>by simpa using hx (i+1) f (by simpa using hf)
  refine ⟨(a,b),⟨h1,k1⟩,by simp only [kS,List.map_cons,B.cons]; omega,fun j hj=>?_⟩
  simp only [kS] at hj ⊢
  rw [i4,h.data.len]
  split
  ·rename_i hlt
   have:=h4 j hlt
   simpa [List.getD_eq_getElem?_getD,List.getElem?_take,List.getElem?_drop,h.cells,hlt] using this
  ·rename_i hge
   have:=k3 (j - C.len) (by omega)
   rw [show off+C.len+(j - C.len)=off+j from by omega] at this
   exact this⟩
theorem qD {C:Codec α} {fs:Array Field} (ht:P.underlying t=some (.struct fs)) (hc:P.cellsOf t=C.len) (h:uP P (fs.toList.map fun f=>(f.type,f.offset)) 0 C):gH P t (aAX C):=⟨aC3 h.data,hc,fun eH B w base spare fuel cs x hx=>by
 obtain ⟨xs,n,rfl,rfl,hl,hlen,hf⟩:=DataW.trod_struct ht hx
 obtain ⟨a,h1,h2,h3⟩:=h.read eH B w base spare n cs xs (by simp [hlen]) fun i f hi=>by
  simp only [List.getElem?_map,Option.map_eq_some_iff] at hi
  obtain ⟨g,hg,rfl⟩:=hi
  exact hf i g (by rw [← Array.getElem?_toList]; exact hg)
 refine ⟨a,h1,by simp only [aAX,B.agg]; omega,by rw [hl,hc]; rfl,fun j hj=>?_⟩
 have:=h3 j hj
 rw [Nat.zero_add] at this
 exact this⟩
theorem aKE {C:Codec α} {m:Nat} {e:TypeId} (ht:P.underlying t=some (.array m e)) (hc:P.cellsOf t=C.len) (h:uP P ((List.range m).map fun i=>(e,i * P.cellsOf e)) 0 C):gH P t (aAX C):=⟨aC3 h.data,hc,fun eH B w base spare fuel cs x hx=>by
 obtain ⟨xs,n,rfl,rfl,hl,hlen,hf⟩:=DataW.trod_array ht hx
 obtain ⟨a,h1,h2,h3⟩:=h.read eH B w base spare n cs xs (by simp [hlen]) fun i f hi=>by
  simp only [List.getElem?_map,Option.map_eq_some_iff] at hi
  obtain ⟨g,hg,rfl⟩:=hi
  have hlt:=(List.getElem?_eq_some_iff.1 hg).1
  simp only [List.length_range] at hlt
  have:g=i:=by simpa [hlt] using hg.symm
  subst this
  exact hf g hlt
 refine ⟨a,h1,by simp only [aAX,B.agg]; omega,by rw [hl,hc]; rfl,fun j hj=>?_⟩
 have:=h3 j hj
 rw [Nat.zero_add] at this
 exact this⟩
def PureV:D→Prop
 | .agg l=>∀ e∈l,e=e.pure1
 | d=>d=d.pure1
theorem PureV.names {d:D} (h:PureV d) (lo hi:Nat):d.names lo hi=false:=by
 cases d with
 | agg l=>exact aX.2 fun e he=>by rw [h e he]; exact cX _
 | tup l=>cases h
 | slice t z n g=>cases t <;> first | rfl | cases h
 | ptr i o=>cases h
 | mref i=>cases h
 | msl i z n=>cases h
 | rptr i z n e o=>cases h
 | oref=>cases h
 | oagg=>cases h
 | osl=>cases h
 | kseq=>cases h
 | mit=>cases h
 | _=>rfl
theorem wK {d:D} {k:Prop} (h:d=d.pure1) (hk:k):dI d d k:=by
 cases d with
 | int kd n =>
  have:kD kd kd=true:=by cases kd <;> rfl
  show Br (kD kd kd) (n=n∧k) False
  rw [this]
  exact ⟨rfl,hk⟩
 | bool b=>exact ⟨rfl,hk⟩
 | str s=>exact ⟨rfl,hk⟩
 | slice t z n g =>
  cases t with
  | ro =>
   have:Nat.beq z z=true:=Nat.beq_refl z
   show Br (true&&Nat.beq z z) (n=n∧(∀ i,i < n→DEqs (g i) (g i))∧k) False
   rw [this]
   exact ⟨rfl,fun i _=>DEqs.refl _,hk⟩
  | full=>cases h
  | own i=>cases h
 | nilp=>exact hk
 | dead=>exact hk
 | ubool=>cases h
 | agg l=>cases h
 | tup l=>cases h
 | ptr i o=>cases h
 | eptr l=>cases h
 | fn f l=>cases h
 | mp=>cases h
 | mref=>cases h
 | newp=>cases h
 | arr=>cases h
 | msl=>cases h
 | rptr=>cases h
 | nilm=>exact hk
 | obj=>cases h
 | oref=>cases h
 | oagg=>cases h
 | osl=>cases h
 | kseq=>cases h
 | mit=>cases h
theorem sL:∀ {l:List D} {k:Prop},(∀ d∈l,d=d.pure1)→k→mO l l k
 | [],_,_,hk=>hk
 | d::l,_,h,hk=>wK (h d (by simp)) (sL (fun e he=>h e (by simp [he])) hk)
theorem aGR {d:D} {k:Prop} (h:PureV d) (hk:k):aH7 d d k:=by
 cases d with
 | agg l=>exact sL h hk
 | _=>exact wK h hk
theorem wH:∀ {l:List D} {k:Prop},(∀ d∈l,PureV d)→k→oU l l k
 | [],_,_,hk=>hk
 | d::l,_,h,hk=>aGR (h d (by simp)) (wH (fun e he=>h e (by simp [he])) hk)
structure aFI {α:Type} (P:Program) (ts:List TypeId) (C:α→List D) (ok:α→Prop) (size:α→Nat):Prop where
 len:∀ a,(C a).length=ts.length
 pure:∀ a,∀ d∈C a,PureV d
 read:∀ {H:Type} (eH:TypeId×Value→H) (B:aGE H) (w:World) (base b0:Nat) (spare:Nat→Bool) (r:Reach) (vs:List Value) (ds:List (DataW H)) (ps:List MemPlace),DataW.TrodAll eH P w base spare true ts vs ds ps →
  (∀ (j:Nat) t v,ts[j]? = some t→vs[j]? = some v→Value.okWide P w r b0 t v) →
  ∃ a,ok a∧size a≤B.all ds∧vs.length=ts.length∧ds.length=ts.length∧∀ F (G:Gh) tk,G.σ=σOf w→∀ j,j < ts.length→Rd F G tk (vs.getD j undef) (nth (C a) j .dead)
theorem aI0:aFI P [] (fun _:Unit=>[]) (fun _=>True) (fun _=>0):=⟨fun _=>rfl,fun _ d h=>by simp at h,fun eH B w base b0 spare r vs ds ps h _=>by
 cases vs with
 | cons=>cases ds <;> exact h.elim
 | nil =>
  cases ds with
  | cons=>exact h.elim
  | nil=>exact ⟨(),trivial,Nat.zero_le _,rfl,rfl,fun F G tk _ j hj=>by simp at hj⟩⟩
theorem w4 {w:World} {r:Reach} {b0:Nat} {v:Value} (hg:bY P t=some true) (h:Value.okWide P w r b0 t v):∃ cs,v=.agg cs:=by
 unfold bY at hg
 unfold Value.okWide at h
 split at h
 ·obtain ⟨cs,h1,_⟩:=h; exact ⟨cs,h1⟩
 ·obtain ⟨cs,h1,_⟩:=h; exact ⟨cs,h1⟩
 ·rename_i h1 h2
  split at hg
  ·rename_i fs h3; exact absurd h3 (h1 fs)
  ·rename_i n e h3; exact absurd h3 (h2 n e)
  ·cases hg
  ·cases hg
theorem w5 {w:World} {r:Reach} {b0:Nat} {v:Value} (hg:bY P t=some false) (h:Value.okWide P w r b0 t v):∀ cs,v≠.agg cs:=by
 intro cs hv
 subst hv
 unfold bY at hg
 unfold Value.okWide at h
 split at h
 ·rename_i fs h3; rw [h3] at hg; cases hg
 ·rename_i n e h3; rw [h3] at hg; cases hg
 ·unfold Cell.okWide at h
  split at h <;> try simp_all
  unfold Cell.ok at h
  split at h <;> simp_all
theorem rK {β:Type} {C:Codec α} {ts:List TypeId} {A:β→List D} {ok:β→Prop} {size:β→Nat} {g:Bool} (hg:bY P t=some g) (h:gH P t C) (hl:g=true∨C.len=1) (k:aFI P ts A ok size) :
  aFI P (t::ts) (fun x:α×β=>mkv g (C.enc x.1)::A x.2) (fun x=>C.ok x.1∧ok x.2) (fun x=>C.size x.1+size x.2):=by
 refine ⟨fun x=>by simp [k.len],fun x d hd=>?_,fun eH B w base b0 spare r vs ds ps ht hok=>?_⟩
 ·simp only [List.mem_cons] at hd
  rcases hd with rfl | hd
  ·cases g with
   | true=>exact fun e he=>(h.data.pure _ e he).1
   | false =>
    have hl : C.len = 1 := by rcases hl with h | h; · cases h
                              ·exact h
    have:=(h.data.nth x.1 (j:=0) (by omega)).1
    show PureV (nth (C.enc x.1) 0 .dead)
    generalize nth (C.enc x.1) 0 .dead=e at this
    cases e <;> first | exact this | cases this
  ·exact k.pure _ d hd
 ·cases vs with
  | nil=>cases ds <;> exact ht.elim
  | cons v vs =>
   cases ds with
   | nil=>exact ht.elim
   | cons d ds =>
    obtain ⟨p,q,h1,h2,rfl⟩:=ht
    obtain ⟨fuel,h1⟩:=h1
    obtain ⟨a,a1,a2,a3,a4⟩:=h.read eH B w base spare fuel _ _ h1
    obtain ⟨b,b1,b2,b3,b4,b5⟩:=k.read eH B w base b0 spare r vs ds q h2 fun j t' v' hj hv=>hok (j+1) t' v' (by simpa using hj) (by simpa using hv)
    refine ⟨(a,b),⟨a1,b1⟩,by have a2':C.size a≤B.one d:=a2; simp only [B.cons]; omega,by simp [b3],by simp [b4],fun F G tk hσ j hj=>?_⟩
    cases j with
    | succ j=>simpa [nth] using b5 F G tk hσ j (by simpa using hj)
    | zero =>
     have hv:=hok 0 t v rfl rfl
     have cell:∀ j,j < C.len→Rc F G tk (v.cells.toList.getD j undef) (nth (C.enc a) j .dead):=fun j hj=>by
      refine .pure (hσ ▸ a4 j hj) ?_
      rw [(h.data.nth a hj).1]
      exact b9 _ _
     cases g with
     | true =>
      obtain ⟨cs,rfl⟩:=w4 hg hv
      refine .any (.agg cs _ ?_ fun j hj=>?_)
      ·rw [h.data.len,← a3]; simp [Value.cells]
      ·have hj':j < C.len:=by rw [← h.data.len a]; exact hj
       have:=cell j hj'
       simpa [Value.cells,Array.getD_eq_getD_getElem?,List.getD_eq_getElem?_getD] using this
     | false =>
      have hl : C.len = 1 := by rcases hl with h | h; · cases h
                                ·exact h
      have h0:=w5 hg hv
      have:=cell 0 (by omega)
      have e:v.cells.toList.getD 0 undef=v:=by
       cases v <;> first | rfl | exact absurd rfl (h0 _)
      rw [e] at this
      exact .any (.cell this)
theorem aI6 {C:Codec α} {g:Bool} (hg:bY P t=some g) (h:gH P t C) (hl:g=true∨C.len=1):aFI P [t] (fun x:α=>[mkv g (C.enc x)]) C.ok C.size:=by
 have k:=rK hg h hl (aI0 (P:=P))
 refine ⟨fun x=>rfl,fun x d hd=>k.pure (x,()) d hd,fun eH B w base b0 spare r vs ds ps ht hok=>?_⟩
 obtain ⟨a,h1,h2,h3,h4,h5⟩:=k.read eH B w base b0 spare r vs ds ps ht hok
 exact ⟨a.1,h1.1,by have h2':C.size a.1+0≤B.all ds:=h2; omega,h3,h4,h5⟩
end
end Go.Abs
