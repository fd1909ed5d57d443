/- The abstract machine and its soundness. -/
import Derived.Orders
import Derived.Test.YtcmjinkfgbadoaaBucketMoreP1
set_option linter.unusedVariables false
set_option linter.unusedSimpArgs false
set_option linter.unusedSectionVars false
namespace Go.Abs
open Go
section
variable {P:Program} {ft:FT} {np:Nat} {hp:Nat→Option (Bool×List D)} {tk:Nat→Option (Nat×Nat)} {lo hi id:Nat}
theorem aU {l:List D}:names lo hi l=false↔∀ d∈l,d.names1 lo hi=false:=by
 induction l with
 | nil=>simp [names]
 | cons d l ih =>
  simp only [names,List.mem_cons,forall_eq_or_imp]
  cases d.names1 lo hi with
  | true=>simp
  | false=>simp [ih]
theorem aX {lo hi j:Nat} (h:¬(lo≤j∧j < hi)):(Nat.ble lo j&&Nat.blt j hi)=false:=by
 cases hh:(Nat.ble lo j&&Nat.blt j hi) with
 | false=>rfl
 | true =>
  simp only [Bool.and_eq_true,Nat.ble_eq,Nat.blt_eq] at hh
  exact absurd hh h
theorem aAW {l:List D} {i:Nat} {a d:D} (h:d∈upd l i a):d=a∨d∈l:=by
 induction l generalizing i with
 | nil=>simp [upd] at h
 | cons e l ih =>
  cases i with
  | zero =>
   simp only [upd,List.mem_cons] at h
   rcases h with h | h
   ·exact .inl h
   ·exact .inr (List.mem_cons_of_mem _ h)
  | succ i =>
   simp only [upd,List.mem_cons] at h
   rcases h with h | h
   ·exact .inr (by simp [h])
   ·rcases ih h with h | h
    ·exact .inl h
    ·exact .inr (List.mem_cons_of_mem _ h)
theorem lB {ds:List D}:∀ {cs:List D} {o:Nat} {d:D},d∈d7 cs o ds→d∈cs∨d∈ds:=by
 induction ds with
 | nil=>intro cs o d h; exact .inl h
 | cons a ds ih =>
  intro cs o d h
  simp only [d7] at h
  rcases ih h with h | h
  ·rcases aAW h with h | h
   ·exact .inr (by simp [h])
   ·exact .inl h
  ·exact .inr (List.mem_cons_of_mem _ h)
theorem dB (d:D):d.pure1.names1 lo hi=false:=by cases d <;> rfl
theorem fZ {l:List D} {d:D} (h:d∈aK l):∃ e∈l,d=e.pure1:=by
 induction l with
 | nil=>simp [aK] at h
 | cons a l ih =>
  simp only [aK,List.mem_cons] at h
  rcases h with h | h
  ·exact ⟨a,by simp,h⟩
  ·obtain ⟨e,h1,h2⟩:=ih h
   exact ⟨e,List.mem_cons_of_mem _ h1,h2⟩
theorem aFX {l:List D} {d:D} (h:d∈ros l):∃ e∈l,d=e.ro1:=by
 induction l with
 | nil=>simp [ros] at h
 | cons a l ih =>
  simp only [ros,List.mem_cons] at h
  rcases h with h | h
  ·exact ⟨a,by simp,h⟩
  ·obtain ⟨e,h1,h2⟩:=ih h
   exact ⟨e,List.mem_cons_of_mem _ h1,h2⟩
theorem aHK {d:D} (h:d.names1 lo hi=false):d.ro1.names1 lo hi=false:=by
 cases d with
 | slice t z n g=>cases t <;> rfl
 | _=>exact h
theorem dK (l:List D):names lo hi (aK l)=false:=aU.2 fun d hd=>by
 obtain ⟨e,_,rfl⟩:=fZ hd
 exact dB e
theorem aGQ {l:List D} (h:names lo hi l=false):names lo hi (ros l)=false:=aU.2 fun d hd=>by
 obtain ⟨e,he,rfl⟩:=aFX hd
 exact aHK (aU.1 h e he)
theorem aGR {d:D} (h:d.names lo hi=false):d.names1 lo hi=false:=by
 cases d with
 | agg l=>rfl
 | tup l=>rfl
 | _=>exact h
theorem qY {l:List D} {j:Nat}:nth l j .dead∈l∨nth l j .dead=.dead:=by
 by_cases hj:j < l.length
 ·exact .inl (by rw [dN l _ hj]; exact List.getElem_mem hj)
 ·exact .inr (iE l _ (Nat.le_of_not_lt hj))
theorem aDJ:∀ {qs:List (Nat×Nat)} {xs cells l:List D},fill cells qs xs=some l→∀ d∈l,d∈cells∨∃ x∈xs,d∈x.cells
 | [],[],cells,l,h,d,hd=>by cases h; exact .inl hd
 | [],_::_,_,_,h,_,_=>by simp [fill] at h
 | _::_,[],_,_,h,_,_=>by simp [fill] at h
 | (off,size)::qs,x::xs,cells,l,h,d,hd=>by
  simp only [fill] at h
  cases hb:(aH x.cells&&Nat.beq x.cells.length size&&Nat.ble (off+size) cells.length) with
  | false=>rw [hb] at h; cases h
  | true =>
   rw [hb] at h
   rcases aDJ h d hd with h1 | ⟨y,h1,h2⟩
   ·rcases lB h1 with h3 | h3
    ·exact .inl h3
    ·exact .inr ⟨x,by simp,h3⟩
   ·exact .inr ⟨y,List.mem_cons_of_mem _ h1,h2⟩
def Cell:D→Prop
 | .agg _=>False
 | .tup _=>False
 | _=>True
theorem Cell.names {d:D} (h:Cell d) (h1:d.names1 lo hi=false):d.names lo hi=false:=by
 cases d <;> first | exact h1 | exact h.elim
theorem dE (d:D):Cell d.pure1:=by cases d <;> trivial
def yQ (lo hi:Nat):D→Prop
 | .agg l=>∀ e∈l,Cell e
 | .tup l=>∀ e∈l,match e with
  | .agg c=>names lo hi c=false
  | .tup _=>False
  | _=>True
 | _=>True
theorem gP {l:List D} (h:aH l=true):∀ e∈l,Cell e:=by
 induction l with
 | nil=>simp
 | cons d l ih =>
  intro e he
  simp only [List.mem_cons] at he
  rcases he with rfl | he
  ·cases e <;> first | trivial | simp [aH] at h
  ·refine ih ?_ e he
   cases d <;> first | exact h | simp [aH] at h
theorem cK {g:Bool} {n:Nat} {l:List D} {v:D} {u:Upd} (h:(cF g n l).holds v u) (h1:names lo hi l=false) (h2:∀ e∈l,Cell e):v.names lo hi=false∧u=Upd.none:=by
 unfold cF at h
 cases hb:Nat.ble n l.length with
 | false=>rw [hb] at h; exact (aB h).elim
 | true =>
  rw [hb] at h
  obtain ⟨rfl,rfl⟩:=aD h
  refine ⟨?_,rfl⟩
  have h3:names lo hi (l.take n)=false:=aU.2 fun d hd=>aU.1 h1 d (List.mem_of_mem_take hd)
  cases g with
  | true=>exact h3
  | false =>
   simp only [mkv,cond_false]
   rcases qY (l:=l.take n) (j:=0) with h4 | h4
   ·exact (h2 _ (List.mem_of_mem_take h4)).names (aU.1 h3 _ h4)
   ·rw [h4]; rfl
theorem lR {l:List D} (h:names lo hi l=false) (n:Nat):names lo hi (l.drop n)=false:=aU.2 fun d hd=>aU.1 h d (List.mem_of_mem_drop hd)
theorem s5:∀ (l:List D) (i:Nat),(∀ d∈l,(∃ t z n g,d=.slice t z n g)∨d.names1 lo hi=false)→(∀ d∈l,∀ j z n g,d=.slice (.own j) z n g→True)→(i+l.length≤lo∨hi≤i)→names lo hi (cN l i)=false∧∀ x∈aW l i,¬(lo≤x.1∧x.1 < hi)
 | [],i,_,_,_=>⟨rfl,fun x hx=>by simp [aW] at hx⟩
 | d::l,i,h,h',hl=>by
  simp only [List.length_cons] at hl
  obtain ⟨e1,e2⟩:=s5 l (i+1) (fun d hd=>h d (List.mem_cons_of_mem _ hd)) (fun _ _ _ _ _ _ _=>trivial) (by omega)
  have h0:=h d (by simp)
  have other:d.names1 lo hi=false→names lo hi (d::cN l (i+1))=false:=fun hd=>aU.2 fun x hx=>by
   simp only [List.mem_cons] at hx
   rcases hx with rfl | hx
   ·exact hd
   ·exact aU.1 e1 x hx
  cases d with
  | slice t z n g =>
   cases t with
   | own j =>
    refine ⟨aU.2 fun x hx=>?_,fun x hx=>?_⟩
    ·simp only [cN,List.mem_cons] at hx
     rcases hx with rfl | hx
     ·exact aX (by omega)
     ·exact aU.1 e1 x hx
    ·simp only [aW,List.mem_cons] at hx
     rcases hx with rfl | hx
     ·simp only; omega
     ·exact e2 x hx
   | ro=>exact ⟨other rfl,e2⟩
   | full=>exact ⟨other rfl,e2⟩
  | ptr j o=>exact ⟨other (by rcases h0 with ⟨_,_,_,_,h0⟩ | h0; cases h0; exact h0),e2⟩
  | int k n=>exact ⟨other rfl,e2⟩
  | bool k=>exact ⟨other rfl,e2⟩
  | str k=>exact ⟨other rfl,e2⟩
  | agg k=>exact ⟨other rfl,e2⟩
  | nilm=>exact ⟨other rfl,e2⟩
  | obj=>exact ⟨other rfl,e2⟩
  | oref j _ _=>exact ⟨other (by rcases h0 with ⟨_,_,_,_,h0⟩ | h0; cases h0; exact h0),e2⟩
  | oagg j _ _ _=>exact ⟨other (by rcases h0 with ⟨_,_,_,_,h0⟩ | h0; cases h0; exact h0),e2⟩
  | osl j _ _=>exact ⟨other (by rcases h0 with ⟨_,_,_,_,h0⟩ | h0; cases h0; exact h0),e2⟩
  | mit j _ _ _ _ _=>exact ⟨other (by rcases h0 with ⟨_,_,_,_,h0⟩ | h0; cases h0; exact h0),e2⟩
  | tup k=>exact ⟨other rfl,e2⟩
  | eptr k=>exact ⟨other rfl,e2⟩
  | nilp=>exact ⟨other rfl,e2⟩
  | ubool=>exact ⟨other rfl,e2⟩
  | fn k n=>exact ⟨other rfl,e2⟩
  | dead=>exact ⟨other rfl,e2⟩
  | mp va n ks vs=>exact ⟨other rfl,e2⟩
  | newp l=>exact ⟨other rfl,e2⟩
  | arr w z n g=>exact ⟨other rfl,e2⟩
  | mref j=>exact ⟨other (by rcases h0 with ⟨_,_,_,_,h0⟩ | h0; cases h0; exact h0),e2⟩
  | msl j z n=>exact ⟨other (by rcases h0 with ⟨_,_,_,_,h0⟩ | h0; cases h0; exact h0),e2⟩
  | rptr j z n i o=>exact ⟨other (by rcases h0 with ⟨_,_,_,_,h0⟩ | h0; cases h0; exact h0),e2⟩
theorem jY {d:D} (h:wD d=true):d.names1 lo hi=false:=by
 cases d with
 | slice t z n g=>cases t <;> first | rfl | cases h
 | _=>first | rfl | cases h
theorem rR:∀ {l:List D} {i:Nat} {d:D},d∈iJ l i→(∃ q z n g,q < l.length∧d=.slice (.own (i+q)) z n g)∨∃ x,d=D.pure1 x
 | [],_,_,h=>by cases h
 | x::l,i,d,h=>by
  have rest:d∈iJ l (i+1)→(∃ q z n g,q < (x::l).length∧d=.slice (.own (i+q)) z n g)∨∃ x,d=D.pure1 x:=fun h=>by
   rcases rR h with ⟨q,z,n,g,h1,h2⟩ | h
   ·exact .inl ⟨q+1,z,n,g,by simpa using h1,by rw [h2,show i+1+q=i+(q+1) from by omega]⟩
   ·exact .inr h
  cases x with
  | slice t z n g =>
   rcases List.mem_cons.1 h with rfl | h
   ·exact .inl ⟨0,z,n,g,by simp,rfl⟩
   ·exact rest h
  | _ =>
   rcases List.mem_cons.1 h with rfl | h
   ·exact .inr ⟨_,rfl⟩
   ·exact rest h
theorem sC:∀ {l:List D} {i:Nat} {y:Nat×Nat×Nat},y∈hO l i→i≤y.1∧y.1 < i+l.length
 | [],_,_,h=>by cases h
 | x::l,i,y,h=>by
  have rest:y∈hO l (i+1)→i≤y.1∧y.1 < i+(x::l).length:=fun h=>by
   have:=sC h
   rw [List.length_cons]
   omega
  cases x with
  | slice t z n g =>
   rcases List.mem_cons.1 h with rfl | h
   ·rw [List.length_cons]
    simp only
    omega
   ·exact rest h
  | _=>exact rest h
theorem rL:∀ {l:List D} {u:List (Nat×Nat×Nat)} {p:Prop},qG tk l=some (u,p)→∀ y∈u,∃ e,tk y.1=some e
 | [],u,p,h,y,hy=>by
  simp only [qG,Option.some.injEq,Prod.mk.injEq] at h
  rw [← h.1] at hy
  cases hy
 | d::l,u,p,h,y,hy=>by
  cases d with
  | slice t z n g =>
   cases t with
   | ro=>simp [qG] at h
   | full=>exact rL (l:=l) h y hy
   | own j =>
    simp only [qG] at h
    split at h
    ·rename_i z' n' p' hj hl
     cases hb:Nat.beq z' z with
     | false=>rw [hb] at h; cases h
     | true =>
      rw [hb] at h
      simp only [cond_true,Option.some.injEq,Prod.mk.injEq] at h
      rw [← h.1] at hy
      rw [List.mem_singleton.1 hy]
      exact ⟨_,hj⟩
    ·cases h
  | _=>exact rL (l:=l) h y hy
theorem lZ:∀ (l:List D) (ds:List D) (u:List (Nat×Bool×List D)),freeze np hp l=some (ds,u)→(∀ i f cs,hp i=some (f,cs)→¬(lo≤i∧i < hi))→∀ x∈u,¬(lo≤x.1∧x.1 < hi)∧names lo hi x.2.2=false
 | [],ds,u,h,_,x,hx=>by simp only [freeze,Option.some.injEq,Prod.mk.injEq] at h; rw [← h.2] at hx; simp at hx
 | d::l,ds,u,h,hh,x,hx=>by
  have other:(match freeze np hp l with | some (ds,u)=>bif aH [d] then some (d.pure::ds,u) else none | none=>none)=some (ds,u)→¬(lo≤x.1∧x.1 < hi)∧names lo hi x.2.2=false:=by
   intro h
   cases hf:freeze np hp l with
   | none=>simp [hf] at h
   | some p =>
    obtain ⟨ds',u'⟩:=p
    simp only [hf] at h
    cases hs:aH [d] with
    | false=>rw [hs] at h; cases h
    | true =>
     rw [hs] at h
     cases h
     exact lZ l _ _ hf hh x hx
  cases d with
  | ptr i off =>
   simp only [freeze] at h
   cases hi':hp i with
   | none=>simp [hi'] at h
   | some e =>
    obtain ⟨f,cs⟩:=e
    cases hf:freeze np hp l with
    | none=>simp [hi',hf] at h
    | some p =>
     obtain ⟨ds',u'⟩:=p
     simp only [hi',hf] at h
     cases hb:((f || aH cs)&&Nat.ble np i) with
     | false=>rw [hb] at h; cases h
     | true =>
      rw [hb] at h
      cases h
      simp only [List.mem_cons] at hx
      rcases hx with rfl | hx
      ·exact ⟨hh i _ _ hi',dK _⟩
      ·exact lZ l _ _ hf hh x hx
  | fn f c=>simp [freeze] at h
  | _=>exact other h
theorem rG {sz bytes:Nat} {t:Tag} {z n:Nat} {g:Nat→List D} {m:Nat} {k:Nat→List D} {v:D} {u:Upd} (h:(dL id sz bytes tk t z n g m k).holds v u) (hid:¬(lo≤id∧id < hi)) (ht:∀ i e,tk i=some e→¬(lo≤i∧i < hi)) :
  v.names lo hi=false∧(∀ x∈u.h,¬(lo≤x.1∧x.1 < hi)∧names lo hi x.2.2=false)∧∀ x∈u.t,¬(lo≤x.1∧x.1 < hi):=by
 unfold dL at h
 cases hb:Nat.beq z sz with
 | false=>rw [hb] at h; exact (aB h).elim
 | true =>
  rw [hb] at h
  simp only [Bool.not_true,cond_false] at h
  split at h
  ·rename_i i
   split at h
   ·rename_i z' n' hi'
    have h1:=ht i _ hi'
    cases hb2:Nat.beq z' sz with
    | false=>rw [hb2] at h; exact (aB h).elim
    | true =>
     rw [hb2] at h
     obtain ⟨_,rfl,rfl⟩:=aT h
     refine ⟨aX h1,fun y hy=>by simp at hy,fun y hy=>?_⟩
     simp only [List.mem_singleton] at hy
     subst hy
     exact h1
   ·exact (aB h).elim
  ·obtain ⟨_,rfl,rfl⟩:=aT h
   refine ⟨aX (by omega),fun y hy=>by simp at hy,fun y hy=>?_⟩
   simp only [List.mem_singleton] at hy
   subst hy
   simp only
   omega
  ·exact (aB h).elim
theorem r8 {op:BinOp} {x y v:D} {u:Upd} (h:(bin op x y).holds v u):v.names lo hi=false∧u=Upd.none:=by
 unfold bin at h
 split at h
 ·rename_i k a k' b
  cases hs:oJ op with
  | true =>
   rw [hs] at h
   simp only [cond_true] at h
   unfold wL at h
   split at h
   ·obtain ⟨_,rfl,rfl⟩:=aG h; exact ⟨rfl,rfl⟩
   ·obtain ⟨_,rfl,rfl⟩:=aG h; exact ⟨rfl,rfl⟩
   ·exact (aB h).elim
  | false =>
   rw [hs] at h
   simp only [cond_false] at h
   cases hk:kB k k' with
   | false=>rw [hk] at h; exact (aB h).elim
   | true =>
    rw [hk] at h
    simp only [cond_true] at h
    unfold aA3 at h
    split at h
    all_goals first
     | exact (aB h).elim
     | (obtain ⟨rfl,rfl⟩:=aD h; exact ⟨rfl,rfl⟩)
     | (obtain ⟨_,rfl,rfl⟩:=aG h; exact ⟨rfl,rfl⟩)
 ·unfold aAN at h
  split at h
  all_goals first
   | exact (aB h).elim
   | (obtain ⟨rfl,rfl⟩:=aD h; exact ⟨rfl,rfl⟩)
   | (obtain ⟨_,rfl,rfl⟩:=aG h; exact ⟨rfl,rfl⟩)
 ·exact (aB h).elim
theorem a7 {c:Bool} {o:Out} {v:D} {u:Upd} (h:(bif c then o else Out.bad).holds v u):c=true∧o.holds v u:=by
 cases c with
 | true=>exact ⟨rfl,h⟩
 | false=>exact (aB h).elim
theorem dD {c:Bool} {o:Out} {v:D} {u:Upd} (h:(bif !c then Out.bad else o).holds v u):c=true∧o.holds v u:=by
 cases c with
 | true=>exact ⟨rfl,h⟩
 | false=>exact (aB h).elim
theorem qT (comma va ok:Bool) (l:List D):(gR comma va ok l).names lo hi=false:=by
 have e:(mkv va (aK l)).names lo hi=false∧(mkv va (aK l)).names1 lo hi=false:=by
  cases va with
  | true=>exact ⟨dK l,rfl⟩
  | false =>
   simp only [mkv,cond_false]
   rw [aS]
   exact ⟨(dE _).names (dB _),dB _⟩
 cases comma with
 | false=>exact e.1
 | true =>
  simp only [gR,cond_true,D.names]
  refine aU.2 fun d hd=>?_
  simp only [List.mem_cons,List.not_mem_nil,or_false] at hd
  rcases hd with rfl | rfl
  ·exact e.2
  ·rfl
theorem uJ (va:Bool) (l:List D):(mkv va (aK l)).names1 lo hi=false:=by
 cases va with
 | true=>rfl
 | false =>
  simp only [mkv,cond_false]
  rw [aS]
  exact dB _
def UpdOk (lo hi:Nat) (u:Upd):Prop:=(∀ x∈u.h,¬(lo≤x.1∧x.1 < hi)∧names lo hi x.2.2=false)∧u.t=[]
theorem UpdOk.none:UpdOk lo hi Upd.none:=⟨fun x hx=>by simp [Upd.none] at hx,rfl⟩
theorem UpdOk.one {i:Nat} {f:Bool} {cs:List D} (h:¬(lo≤i∧i < hi)) (hn:names lo hi cs=false):UpdOk lo hi ⟨[(i,f,cs)],[]⟩ :=
 ⟨fun x hx=>by
  simp only [List.mem_singleton] at hx
  subst hx
  exact ⟨h,hn⟩,rfl⟩
theorem xU {g:Bool} {n i off:Nat} {e:Bool×List D} {v:D} {u:Upd} (h:(oM g n i off e).holds v u) (hi':¬(lo≤i∧i < hi)):v.names lo hi=false∧u=Upd.none:=by
 unfold oM at h
 split at h
 ·obtain ⟨_,rfl,rfl⟩:=aG h
  cases g <;> exact ⟨aX hi',rfl⟩
 ·exact (aB h).elim
theorem nL {n i off:Nat} {e:Bool×List D} {x v:D} {u:Upd} (h:(kR hp n i off e x).holds v u) (hi':¬(lo≤i∧i < hi)) (hx:x.names lo hi=false):v=.dead∧UpdOk lo hi u:=by
 unfold kR at h
 split at h
 ·rename_i q
  obtain ⟨_,h⟩:=a7 h
  unfold objSet at h
  split at h
  ·obtain ⟨_,rfl,rfl⟩:=aG h
   refine ⟨rfl,fun y hy=>?_,rfl⟩
   simp only [List.mem_cons,List.not_mem_nil,or_false] at hy
   rcases hy with rfl | rfl
   ·exact ⟨hi',rfl⟩
   ·exact ⟨bC hx,rfl⟩
  ·exact (aB h).elim
 ·exact (aB h).elim
theorem aE6 {o:AOp} {args:List D} {v:D} {u:Upd} (h:(kO o id hp args).holds v u) (ha:∀ d∈args,d.names lo hi=false∧yQ lo hi d)
  (hh:∀ i f cs,hp i=some (f,cs)→¬(lo≤i∧i < hi)∧names lo hi cs=false∧∀ e∈cs,Cell e) (hid:¬(lo≤id∧id < hi)) :
  v.names lo hi=false∧UpdOk lo hi u:=by
 unfold kO at h
 split at h
 ·unfold aJQ at h
  split at h
  ·obtain ⟨_,rfl,rfl⟩:=aG h
   exact ⟨rfl,.none⟩
  ·exact (aB h).elim
 ·rename_i i j b k x
  unfold aKI at h
  split at h
  ·rename_i hi'
   obtain ⟨_,h⟩:=a7 h
   obtain ⟨_,rfl,rfl⟩:=aG h
   exact ⟨rfl,.one (hh _ _ _ hi').1 rfl⟩
  ·exact (aB h).elim
 ·unfold aKF at h
  split at h
  ·obtain ⟨_,h⟩:=a7 h
   rcases bP h with ⟨_,rfl,rfl⟩ | ⟨_,rfl,rfl⟩
   ·exact ⟨qT _ _ _ _,.none⟩
   ·exact ⟨qT _ _ _ _,.none⟩
  ·exact (aB h).elim
 ·unfold aH8 at h
  split at h
  ·rename_i hi'
   obtain ⟨_,rfl,rfl⟩:=aG h
   exact ⟨rfl,.one (hh _ _ _ hi').1 rfl⟩
  ·exact (aB h).elim
 ·rename_i i j b
  unfold aEG at h
  split at h
  ·obtain ⟨_,rfl,rfl⟩:=aG h
   have hi':D.names1 lo hi (.oref i j b)=false:=(ha (.oref i j b) (by simp)).1
   refine ⟨aX hid,.one hid ?_⟩
   have:D.names1 lo hi (.mit i j b 0 (fun _=>false) none)=false:=hi'
   simp only [names]
   rw [show D.names1 lo hi .dead=false from rfl]
   simp only [cond_false]
   rw [show ∀ c k q,D.names1 lo hi (.mit i j b c k q)=D.names1 lo hi (.oref i j b) from fun _ _ _=>rfl,hi']
   rfl
  ·exact (aB h).elim
 ·unfold vK at h
  split at h
  ·split at h
   ·obtain ⟨_,rfl,rfl⟩:=aT h
    refine ⟨aU.2 fun d hd=>?_,.none⟩
    simp only [List.mem_cons,List.not_mem_nil,or_false] at hd
    rcases hd with rfl | rfl
    ·rfl
    ·exact uJ _ _
   ·exact (aB h).elim
  ·exact (aB h).elim
 ·obtain ⟨rfl,rfl⟩:=aD h
  exact ⟨rfl,.none⟩
 ·obtain ⟨rfl,rfl⟩:=aD h
  exact ⟨rfl,.none⟩
 ·obtain ⟨rfl,rfl⟩:=aD h
  exact ⟨rfl,.none⟩
 ·rename_i g z len k off m nl kd i
  have h:(bif !(!(g || !(Nat.beq z 1))) then Out.bad else Out.chk (decide (0≤i)&&decide (i < len)&&Nat.ble len m) (.oref k (off+i.toNat) (nl (off+i.toNat))) Upd.none).holds v u:=by rw [Bool.not_not]; exact h
  obtain ⟨_,h⟩:=dD h
  obtain ⟨_,rfl,rfl⟩:=aG h
  exact ⟨(ha (.oagg k off m nl) (by simp)).1,.none⟩
 ·rename_i len lo' hi' i off r
  split at h
  ·split at h
   ·split at h
    ·obtain ⟨_,rfl,rfl⟩:=aG h
     exact ⟨(ha (.ptr i off) (by simp)).1,.none⟩
    ·exact (aB h).elim
   ·exact (aB h).elim
  ·exact (aB h).elim
 ·obtain ⟨rfl,rfl⟩:=aD h
  exact ⟨rfl,.none⟩
 ·rename_i sz k off n kd i
  obtain ⟨_,h⟩:=a7 h
  obtain ⟨_,rfl,rfl⟩:=aG h
  exact ⟨(ha (.osl k off n) (by simp)).1,.none⟩
 ·exact (aB h).elim
theorem vC {it:Nat} {v:D} {u:Upd} (h:aDS it hp v u) (hh:∀ i f cs,hp i=some (f,cs)→¬(lo≤i∧i < hi)∧names lo hi cs=false∧∀ e∈cs,Cell e):v.names lo hi=false∧UpdOk lo hi u:=by
 rcases h with ⟨rfl,rfl⟩ | ⟨i,j,c,s,q,x,m,va,nl,n,ks,vs,h1,h2,rfl,rfl⟩
 ·exact ⟨rfl,.none⟩
 ·obtain ⟨h3,h4,_⟩:=hh _ _ _ h1
  refine ⟨aU.2 fun d hd=>?_,.one h3 h4⟩
  simp only [List.mem_cons,List.not_mem_nil,or_false] at hd
  rcases hd with rfl | rfl | rfl
  ·rfl
  ·rfl
  ·exact uJ _ _
theorem zS {o:AOp} {args:List D} {v:D} {u:Upd} (h:(aP o id hp tk args).holds v u) (ho:kC o=true) (ha:∀ d∈args,d.names lo hi=false∧yQ lo hi d)
  (hh:∀ i f cs,hp i=some (f,cs)→¬(lo≤i∧i < hi)∧names lo hi cs=false∧∀ e∈cs,Cell e) (ht:∀ i e,tk i=some e→¬(lo≤i∧i < hi)) (hid:id+bE o≤lo∨hi≤id) :
  v.names lo hi=false∧(∀ x∈u.h,¬(lo≤x.1∧x.1 < hi)∧names lo hi x.2.2=false)∧∀ x∈u.t,¬(lo≤x.1∧x.1 < hi):=by
 have none':(∀ x∈Upd.none.h,¬(lo≤x.1∧x.1 < hi)∧names lo hi x.2.2=false)∧∀ x∈Upd.none.t,¬(lo≤x.1∧x.1 < hi):=⟨fun x hx=>by simp [Upd.none] at hx,fun x hx=>by simp [Upd.none] at hx⟩
 have hidlt:¬(lo≤id∧id < hi):=by
  have:0 < bE o:=by
   unfold bE
   split <;> omega
  omega
 unfold aP at h
 split at h
 ·obtain ⟨rfl,rfl⟩:=aD h; exact ⟨(ha _ (by simp)).1,none'⟩
 ·rename_i c x y
  obtain ⟨rfl,rfl⟩:=aD h
  refine ⟨?_,none'⟩
  cases c
  ·exact (ha y (by simp)).1
  ·exact (ha x (by simp)).1
 ·rename_i cells
  cases hs:aH cells with
  | false=>rw [hs] at h; exact (aB h).elim
  | true =>
   rw [hs] at h
   obtain ⟨rfl,rfl⟩:=a6 h
   simp only [kC,List.all_eq_true] at ho
   have hr:=s5 (lo:=lo) (hi:=hi) cells (id+1) (fun d hd=>by
    have:=ho d hd
    cases d with
    | slice t z n g=>exact .inl ⟨t,z,n,g,rfl⟩
    | _=>exact .inr (jY this)) (fun _ _ _ _ _ _ _=>trivial) (by simp only [bE] at hid; omega)
   refine ⟨aX (by omega),fun x hx=>?_,hr.2⟩
   simp only [List.mem_singleton] at hx
   subst hx
   exact ⟨by simp only; omega,hr.1⟩
 ·rename_i x
  cases hs:aH x.cells with
  | false=>rw [hs] at h; exact (aB h).elim
  | true =>
   rw [hs] at h
   obtain ⟨rfl,rfl⟩:=a6 h
   refine ⟨aX (by omega),fun y hy=>?_,fun y hy=>by simp at hy⟩
   simp only [List.mem_singleton] at hy
   subst hy
   exact ⟨by simp only; omega,nC (ha x (by simp)).1 hs⟩
 ·rename_i g n i off
  split at h
  ·rename_i f cs hi'
   obtain ⟨h1,h2,h3⟩:=hh i _ _ hi'
   cases hfs:(f || aH cs) with
   | true =>
    rw [hfs] at h
    obtain ⟨h4,rfl⟩:=cK h (lR h2 off) (fun e he=>h3 e (List.mem_of_mem_drop he))
    exact ⟨h4,none'⟩
   | false =>
    rw [hfs] at h
    obtain ⟨h4,rfl⟩:=xU h h1
    exact ⟨h4,none'⟩
  ·exact (aB h).elim
 ·rename_i g n l
  obtain ⟨h4,rfl⟩:=cK (lo:=lo) (hi:=hi) h (dK l) (fun e he=>by
   obtain ⟨x,_,rfl⟩:=fZ he
   exact dE x)
  exact ⟨h4,none'⟩
 ·rename_i n i off x
  split at h
  ·rename_i cs hi'
   obtain ⟨h1,h2,h3⟩:=hh i _ _ hi'
   cases hsol:aH cs with
   | false =>
    rw [hsol] at h
    obtain ⟨rfl,h4,h5⟩:=nL h h1 (ha x (by simp)).1
    exact ⟨rfl,h4,by rw [h5]; simp⟩
   | true =>
   rw [hsol] at h
   simp only [Bool.not_true,cond_false] at h
   cases hb:(aH x.cells&&Nat.beq x.cells.length n&&Nat.ble (off+n) cs.length) with
   | false=>rw [hb] at h; exact (aB h).elim
   | true =>
    rw [hb] at h
    obtain ⟨rfl,rfl⟩:=a6 h
    simp only [Bool.and_eq_true] at hb
    refine ⟨rfl,fun y hy=>?_,fun y hy=>by simp at hy⟩
    simp only [List.mem_singleton] at hy
    subst hy
    refine ⟨h1,aU.2 fun d hd=>?_⟩
    rcases lB hd with hd | hd
    ·exact aU.1 h2 d hd
    ·exact aU.1 (nC (ha x (by simp)).1 hb.1.1) d hd
  ·exact (aB h).elim
 ·rename_i off i o
  obtain ⟨rfl,rfl⟩:=aD h
  exact ⟨(ha (.ptr i o) (by simp)).1,none'⟩
 ·obtain ⟨rfl,rfl⟩:=aD h
  exact ⟨rfl,none'⟩
 ·rename_i g off n l
  have h1:=ha (.agg l) (by simp)
  obtain ⟨h4,rfl⟩:=cK h (lR h1.1 off) (fun e he=>h1.2 e (List.mem_of_mem_drop he))
  exact ⟨h4,none'⟩
 ·rename_i sz t z n g k i
  cases hb:Nat.beq z sz with
  | false=>rw [hb] at h; exact (aB h).elim
  | true =>
   rw [hb] at h
   obtain ⟨_,rfl,rfl⟩:=aG h
   exact ⟨rfl,none'⟩
 ·rename_i sz len j off k i
  obtain ⟨_,rfl,rfl⟩:=aG h
  exact ⟨(ha (.ptr j off) (by simp)).1,none'⟩
 ·obtain ⟨_,rfl,rfl⟩:=aG h
  exact ⟨rfl,none'⟩
 ·obtain ⟨_,rfl,rfl⟩:=aG h
  exact ⟨rfl,none'⟩
 ·rename_i g sz len l k i
  have h1:=ha (.agg l) (by simp)
  cases hl:cF g sz (l.drop (i.toNat * sz)) with
  | ok v' u' =>
   rw [hl] at h
   obtain ⟨_,rfl,rfl⟩:=aG h
   have hl':(cF g sz (l.drop (i.toNat * sz))).holds v u:=.inl hl
   obtain ⟨h4,rfl⟩:=cK hl' (lR h1.1 _) (fun e he=>h1.2 e (List.mem_of_mem_drop he))
   exact ⟨h4,none'⟩
  | bad=>rw [hl] at h; exact (aB h).elim
  | ask p v' u'=>rw [hl] at h; exact (aB h).elim
  | chk p v' u'=>rw [hl] at h; exact (aB h).elim
  | alt p v' u' v2 u2=>rw [hl] at h; exact (aB h).elim
 ·rename_i zero parts
  cases hf:fill zero parts args with
  | none=>rw [hf] at h; exact (aB h).elim
  | some l =>
   rw [hf] at h
   obtain ⟨rfl,rfl⟩:=aD h
   simp only [kC,List.all_eq_true] at ho
   refine ⟨aGQ (aU.2 fun d hd=>?_),none'⟩
   rcases aDJ hf d hd with h1 | ⟨x,h1,h2⟩
   ·exact jY (ho d h1)
   ·cases x with
    | agg l'=>exact aU.1 (ha _ h1).1 d h2
    | _ =>
     simp only [D.cells,List.mem_singleton] at h2
     subst h2
     exact aGR (ha _ h1).1
 ·rename_i sz len zero parts
  cases hf:fill (rep len zero) parts args with
  | none=>rw [hf] at h; exact (aB h).elim
  | some l =>
   rw [hf] at h
   simp only at h
   cases hb:(Nat.beq zero.length sz&&aH l) with
   | false=>rw [hb] at h; exact (aB h).elim
   | true =>
    rw [hb] at h
    obtain ⟨rfl,rfl⟩:=aD h
    exact ⟨rfl,none'⟩
 ·rename_i sz lo' hi' mx t z n g r
  cases hb:Nat.beq z sz with
  | false=>rw [hb] at h; exact (aB h).elim
  | true =>
   rw [hb] at h
   simp only [Bool.not_true,cond_false] at h
   split at h
   ·split at h
    ·split at h
     ·obtain ⟨_,rfl,rfl⟩:=aG h
      refine ⟨?_,none'⟩
      cases mx <;> rfl
     ·exact (aB h).elim
    ·exact (aB h).elim
   ·exact (aB h).elim
 ·split at h
  ·split at h
   ·obtain ⟨_,rfl,rfl⟩:=aG h
    exact ⟨rfl,none'⟩
   ·exact (aB h).elim
  ·exact (aB h).elim
 ·rename_i sz len np' i off
  split at h
  ·rename_i f cs hi'
   obtain ⟨h1,h2,h3⟩:=hh i _ _ hi'
   replace h:=(dD h).2
   cases hb:(Nat.ble (off+len * sz) cs.length&&Nat.ble np' i) with
   | false=>rw [hb] at h; exact (aB h).elim
   | true =>
    rw [hb] at h
    obtain ⟨rfl,rfl⟩:=a6 h
    refine ⟨rfl,fun y hy=>?_,fun y hy=>by simp at hy⟩
    simp only [List.mem_singleton] at hy
    subst hy
    exact ⟨h1,dK _⟩
  ·exact (aB h).elim
 ·rename_i sz len np' l
  cases hb:Nat.ble (len * sz) l.length with
  | false=>rw [hb] at h; exact (aB h).elim
  | true =>
   rw [hb] at h
   obtain ⟨rfl,rfl⟩:=aD h
   exact ⟨rfl,none'⟩
 ·obtain ⟨rfl,rfl⟩:=aD h
  exact ⟨rfl,none'⟩
 ·obtain ⟨rfl,rfl⟩:=aD h
  exact ⟨rfl,none'⟩
 ·rename_i sz bytes t z n g t' z' m g'
  cases hb:Nat.beq z' sz with
  | false=>rw [hb] at h; exact (aB h).elim
  | true =>
   rw [hb] at h
   exact rG h hidlt ht
 ·rename_i sz bytes t z n g b
  cases hb:Nat.beq sz 1 with
  | false=>rw [hb] at h; exact (aB h).elim
  | true =>
   rw [hb] at h
   exact rG h hidlt ht
 ·obtain ⟨h1,rfl⟩:=r8 (lo:=lo) (hi:=hi) h
  exact ⟨h1,none'⟩
 ·obtain ⟨rfl,rfl⟩:=aD h
  exact ⟨rfl,none'⟩
 ·split at h
  ·obtain ⟨rfl,rfl⟩:=aD h
   exact ⟨rfl,none'⟩
  ·exact (aB h).elim
 ·unfold un at h
  split at h
  ·obtain ⟨rfl,rfl⟩:=aD h
   exact ⟨rfl,none'⟩
  ·obtain ⟨rfl,rfl⟩:=aD h
   exact ⟨rfl,none'⟩
  ·exact (aB h).elim
 ·obtain ⟨rfl,rfl⟩:=aD h
  exact ⟨rfl,none'⟩
 ·obtain ⟨rfl,rfl⟩:=aD h
  exact ⟨rfl,none'⟩
 ·obtain ⟨_,rfl,rfl⟩:=aT h
  exact ⟨rfl,none'⟩
 ·obtain ⟨rfl,rfl⟩:=aD h
  exact ⟨rfl,none'⟩
 ·obtain ⟨rfl,rfl⟩:=aD h
  exact ⟨rfl,none'⟩
 ·rename_i f np'
  cases hf:freeze np' hp args with
  | none=>rw [hf] at h; exact (aB h).elim
  | some p =>
   obtain ⟨ds,us⟩:=p
   rw [hf] at h
   obtain ⟨rfl,rfl⟩:=a6 h
   exact ⟨rfl,lZ args ds us hf (fun i f cs h=>(hh i f cs h).1),fun y hy=>by simp at hy⟩
 ·rename_i i l
  have h1:=ha (.tup l) (by simp)
  cases hb:Nat.blt i l.length with
  | false=>rw [hb] at h; exact (aB h).elim
  | true =>
   rw [hb] at h
   obtain ⟨rfl,rfl⟩:=aD h
   refine ⟨?_,none'⟩
   rcases qY (l:=l) (j:=i) with h2 | h2
   ·have h3:=aU.1 h1.1 _ h2
    have h4:=h1.2 _ h2
    generalize nth l i .dead=e at h3 h4
    cases e with
    | agg c=>exact h4
    | tup c=>exact h4.elim
    | _=>exact h3
   ·rw [h2]; rfl
 ·rename_i zero bytes k l k' c
  cases hs:aH zero with
  | false=>rw [hs] at h; exact (aB h).elim
  | true =>
   rw [hs] at h
   cases hrow:Nat.ble 1000000 id with
   | true =>
    rw [hrow] at h
    obtain ⟨_,rfl,rfl⟩:=aT h
    refine ⟨aX (by omega),fun y hy=>?_,fun y hy=>by simp at hy⟩
    simp only [List.mem_singleton] at hy
    subst hy
    exact ⟨by simp only; omega,rfl⟩
   | false =>
    rw [hrow] at h
    obtain ⟨_,rfl,rfl⟩:=aT h
    refine ⟨aX (by omega),fun y hy=>by simp at hy,fun y hy=>?_⟩
    simp only [List.mem_singleton] at hy
    subst hy
    simp only
    omega
 ·obtain ⟨rfl,rfl⟩:=aD h
  exact ⟨(ha _ (by simp)).1,none'⟩
 ·obtain ⟨rfl,rfl⟩:=aD h
  exact ⟨rfl,none'⟩
 ·obtain ⟨rfl,rfl⟩:=aD h
  exact ⟨rfl,none'⟩
 ·obtain ⟨rfl,rfl⟩:=a6 h
  refine ⟨aX (by omega),fun y hy=>by simp at hy,fun y hy=>?_⟩
  simp only [List.mem_singleton] at hy
  subst hy
  simp only
  omega
 ·obtain ⟨rfl,rfl⟩:=a6 h
  refine ⟨aX (by omega),fun y hy=>?_,fun y hy=>by simp at hy⟩
  simp only [List.mem_singleton] at hy
  subst hy
  exact ⟨by simp only; omega,rfl⟩
 ·rename_i i
  unfold rN at h
  split at h
  ·rename_i s p hi'
   obtain ⟨h1,_,_⟩:=hh i _ _ hi'
   rcases bP h with ⟨_,rfl,rfl⟩ | ⟨_,rfl,rfl⟩
   ·refine ⟨rfl,fun y hy=>?_,fun y hy=>by simp at hy⟩
    simp only [List.mem_singleton] at hy
    subst hy
    exact ⟨h1,rfl⟩
   ·exact ⟨rfl,none'⟩
  ·exact (aB h).elim
 ·rename_i va lin
  obtain ⟨rfl,rfl⟩:=a6 h
  refine ⟨aX (by omega),fun y hy=>?_,fun y hy=>by simp at hy⟩
  simp only [List.mem_singleton] at hy
  subst hy
  exact ⟨by simp only; omega,by cases va <;> cases lin <;> rfl⟩
 ·unfold wF at h
  split at h
  ·obtain ⟨rfl,rfl⟩:=aD h
   exact ⟨rfl,none'⟩
  ·exact (aB h).elim
 ·rename_i i k x
  unfold wP at h
  split at h
  ·rename_i va n ks vs hi'
   obtain ⟨h1,_,_⟩:=hh i _ _ hi'
   obtain ⟨_,h⟩:=a7 h
   obtain ⟨rfl,rfl⟩:=a6 h
   refine ⟨rfl,fun y hy=>?_,fun y hy=>by simp at hy⟩
   simp only [List.mem_singleton] at hy
   subst hy
   exact ⟨h1,rfl⟩
  ·rename_i k' n ks vs hi'
   obtain ⟨h1,_,_⟩:=hh i _ _ hi'
   obtain ⟨_,h⟩:=a7 h
   split at h
   ·rename_i u0 p hput
    obtain ⟨_,rfl,rfl⟩:=aT h
    refine ⟨rfl,fun y hy=>?_,fun y hy=>?_⟩
    ·simp only [List.mem_singleton] at hy
     subst hy
     exact ⟨h1,rfl⟩
    ·obtain ⟨e,he⟩:=rL hput y hy
     exact ht _ e he
   ·exact (aB h).elim
  ·exact (aB h).elim
 ·rename_i comma va zero i k
  unfold xL at h
  split at h
  ·rename_i va' n ks vs hi'
   obtain ⟨hva,h⟩:=a7 h
   have hva:va'=va:=by cases va' <;> cases va <;> first | rfl | cases hva
   subst hva
   have hz:∀ ok l,(gR comma va' ok l).names lo hi=false:=fun ok l=>by
    have e:(mkv va' (aK l)).names lo hi=false∧(mkv va' (aK l)).names1 lo hi=false:=by
     cases va' with
     | true=>exact ⟨dK l,rfl⟩
     | false =>
      simp only [mkv,cond_false]
      rw [aS]
      exact ⟨(dE _).names (dB _),dB _⟩
    cases comma with
    | false=>exact e.1
    | true =>
     simp only [gR,cond_true,D.names]
     refine aU.2 fun d hd=>?_
     simp only [List.mem_cons,List.not_mem_nil,or_false] at hd
     rcases hd with rfl | rfl
     ·exact e.2
     ·rfl
   rcases bP h with ⟨_,rfl,rfl⟩ | ⟨_,rfl,rfl⟩
   ·exact ⟨hz _ _,none'⟩
   ·exact ⟨hz _ _,none'⟩
  ·rename_i n ks vs hi'
   obtain ⟨h1,_,_⟩:=hh i _ _ hi'
   obtain ⟨hb,h⟩:=a7 h
   simp only [Bool.and_eq_true,Bool.not_eq_true'] at hb
   obtain ⟨⟨⟨⟨hva,_⟩,_⟩,hlen⟩,_⟩:=hb
   have hlen:=Nat.eq_of_beq_eq_true hlen
   have hids:bE (.mapGet comma va zero)=1+zero.length:=by rw [hva]; rfl
   rw [hids] at hid
   have hm:∀ y∈[(i,false,[D.str k,.mp true n ks vs])],¬(lo≤y.1∧y.1 < hi)∧names lo hi y.2.2=false:=fun y hy=>by
    simp only [List.mem_singleton] at hy
    subst hy
    exact ⟨h1,rfl⟩
   rcases bP h with ⟨_,rfl,rfl⟩ | ⟨_,rfl,rfl⟩
   ·refine ⟨aU.2 fun d hd=>?_,hm,fun y hy=>?_⟩
    ·rcases rR hd with ⟨q,z,m,g,h2,rfl⟩ | ⟨x,rfl⟩
     ·exact aX (by omega)
     ·exact dB x
    ·have:=sC hy
     omega
   ·refine ⟨aU.2 fun d hd=>?_,hm,fun y hy=>by simp at hy⟩
    simp only [kC,Bool.and_eq_true,List.all_eq_true] at ho
    exact jY (ho.1 d hd)
  ·exact (aB h).elim
 ·obtain ⟨rfl,rfl⟩:=aD h
  exact ⟨rfl,none'⟩
 ·obtain ⟨rfl,rfl⟩:=aD h
  exact ⟨rfl,none'⟩
 ·obtain ⟨rfl,rfl⟩:=aD h
  exact ⟨rfl,none'⟩
 ·rcases bP h with ⟨_,rfl,rfl⟩ | ⟨_,rfl,rfl⟩
  ·exact ⟨rfl,none'⟩
  ·exact ⟨rfl,none'⟩
 ·obtain ⟨rfl,rfl⟩:=aD h
  exact ⟨rfl,none'⟩
 ·rename_i sz j z n kd i
  obtain ⟨_,h⟩:=dD h
  obtain ⟨_,rfl,rfl⟩:=aG h
  exact ⟨(ha (.msl j z n) (by simp)).1,none'⟩
 ·rename_i off j z n i o
  obtain ⟨rfl,rfl⟩:=aD h
  exact ⟨(ha (.rptr j z n i o) (by simp)).1,none'⟩
 ·rename_i j z n i o
  obtain ⟨rfl,rfl⟩:=aD h
  exact ⟨(ha (.rptr j z n i o) (by simp)).1,none'⟩
 ·unfold qU at h
  split at h
  ·obtain ⟨_,h⟩:=a7 h
   obtain ⟨_,h⟩:=lI h
   obtain ⟨e1,rfl⟩:=cK (lo:=lo) (hi:=hi) h (lR (dK _) _) (fun e he=>by
    obtain ⟨x,_,rfl⟩:=fZ (List.mem_of_mem_drop he)
    exact dE x)
   exact ⟨e1,none'⟩
  ·exact (aB h).elim
 ·rename_i m j z n i o x
  unfold nG at h
  split at h
  ·rename_i w z' n' g hi'
   obtain ⟨_,h⟩:=a7 h
   obtain ⟨_,rfl,rfl⟩:=aT h
   refine ⟨rfl,fun y hy=>?_,fun y hy=>by simp at hy⟩
   simp only [List.mem_singleton] at hy
   subst hy
   exact ⟨(hh j _ _ hi').1,rfl⟩
  ·exact (aB h).elim
 ·rename_i sz bytes j z n t z' m k
  obtain ⟨_,h⟩:=dD h
  unfold sL at h
  split at h
  ·rename_i z1 n1 g hi'
   obtain ⟨_,h⟩:=a7 h
   obtain ⟨_,rfl,rfl⟩:=aT h
   refine ⟨(ha (.msl j z n) (by simp)).1,fun y hy=>?_,fun y hy=>by simp at hy⟩
   simp only [List.mem_singleton] at hy
   subst hy
   exact ⟨(hh j _ _ hi').1,rfl⟩
  ·exact (aB h).elim
 ·obtain ⟨h1,h2,h3⟩:=aE6 h ha hh hidlt
  exact ⟨h1,h2,by rw [h3]; simp⟩
end
section
variable {P:Program} {F:Nat→FuncId} {B np:Nat} {w0 w w':World} {ext:List Nat} {σ0:Og} {G G':Gh} {s:St} {a:Act} {ft:FT} {hp:Nat→Option (Bool×List D)} {tk:Nat→Option (Nat×Nat)} {lo hi:Nat}
theorem kG:∀ {l:List (Nat×Bool×List D)} {hp:Nat→Option (Bool×List D)} {j:Nat} {x:Bool×List D},bX hp l j=some x→hp j=some x∨(j,x)∈l
 | [],_,_,_,h=>.inl h
 | (i,e)::l,hp,j,x,h=>by
  simp only [bX] at h
  rcases kG h with h1 | h1
  ·rcases aL h1 with ⟨rfl,rfl⟩ | ⟨_,h2⟩
   ·exact .inr (by simp)
   ·exact .inl h2
  ·exact .inr (List.mem_cons_of_mem _ h1)
theorem vY:∀ {l:List (Nat×Nat×Nat)} {tk:Nat→Option (Nat×Nat)} {j:Nat} {x:Nat×Nat},cI tk l j=some x→tk j=some x∨(j,x)∈l
 | [],_,_,_,h=>.inl h
 | (i,e)::l,tk,j,x,h=>by
  simp only [cI] at h
  rcases vY h with h1 | h1
  ·rcases aL h1 with ⟨rfl,rfl⟩ | ⟨_,h2⟩
   ·exact .inr (by simp)
   ·exact .inl h2
  ·exact .inr (List.mem_cons_of_mem _ h1)
theorem aE4 (dst:Option Nat) (v:D) (fr:List D):(fI dst v fr).length=fr.length:=by
 cases dst <;> simp [fI,cG]
theorem aEY (dst:Option Nat) (v:D) (fr:List D) (j:Nat):nth (fI dst v fr) j .dead=v∨nth (fI dst v fr) j .dead=nth fr j .dead:=by
 cases dst with
 | none=>exact .inr rfl
 | some d =>
  simp only [fI,fR]
  split
  ·exact .inl rfl
  ·exact .inr rfl
theorem Clean.after (h:Clean lo hi s) {v:D} {u:Upd} (hv:v.names lo hi=false) (hh:∀ x∈u.h,¬(lo≤x.1∧x.1 < hi)∧names lo hi x.2.2=false) (ht:∀ x∈u.t,¬(lo≤x.1∧x.1 < hi)) (dst:Option Nat) :
  Clean lo hi ⟨fI dst v s.fr,bX s.hp u.h,cI s.tk u.t⟩:=by
 refine ⟨fun i hi'=>?_,fun i f cs hx=>?_,fun i e hx=>?_⟩
 ·simp only [aE4] at hi'
  simp only
  rcases aEY dst v s.fr i with e | e
  ·rw [e]; exact hv
  ·rw [e]; exact h.fr i hi'
 ·rcases kG hx with h1 | h1
  ·exact h.hp i f cs h1
  ·exact hh _ h1
 ·rcases vY hx with h1 | h1
  ·exact h.tk i e h1
  ·exact ht _ h1
theorem Rp.cell {σ:Sg} {v:Value} {d:D} (h:Rp σ v d):Cell d:=by cases h <;> trivial
theorem Rc.cell {v:Value} {d:D} (h:Rc F G tk v d):Cell d:=by
 cases h with
 | pure h _=>exact h.cell
 | _=>trivial
theorem Rd.flat {v:Value} {d:D} (h:Rd F G tk v d):yQ lo hi d:=by
 cases h with
 | any h =>
  cases h with
  | cell h =>
   have:=h.cell
   cases d <;> first | trivial | exact this.elim
  | agg cs l h1 h2 =>
   intro e he
   obtain ⟨j,hj,rfl⟩:=List.mem_iff_getElem.1 he
   have:=(h2 j hj).cell
   rw [dN l _ hj] at this
   exact this
 | tup vs l h1 h2 =>
  intro e he
  obtain ⟨j,hj,rfl⟩:=List.mem_iff_getElem.1 he
  have:=h2 j hj
  rw [dN l _ hj] at this
  generalize l[j]=e at this
  generalize vs.getD j undef=v at this
  cases this with
  | cell h =>
   have:=h.cell
   cases e <;> first | trivial | exact this.elim
  | agg cs c h3 h4 =>
   refine aU.2 fun x hx=>?_
   obtain ⟨q,hq,rfl⟩:=List.mem_iff_getElem.1 hx
   have:=(h4 q hq).2
   rw [dN c _ hq] at this
   rw [this]
   exact dB _
 | mref id=>trivial
 | msl=>trivial
 | rptr=>trivial
 | oref _ _ _ _=>trivial
 | oagg _ _ _ _ _ _=>trivial
 | osl _ _ _ _ _ _ _=>trivial
theorem pY {d:D} (h:aAM d=true):d.names lo hi=false∧yQ lo hi d:=by
 cases d with
 | agg l =>
  simp only [aAM,List.all_eq_true] at h
  refine ⟨aU.2 fun e he=>jY (h e he),fun e he=>?_⟩
  have:=h e he
  cases e <;> first | trivial | cases this
 | tup l=>cases h
 | slice t z n g=>cases t <;> first | exact ⟨rfl,trivial⟩ | cases h
 | ptr j o=>cases h
 | mref j=>cases h
 | msl j z n=>cases h
 | rptr j z n i o=>cases h
 | oref j _ _=>cases h
 | oagg j _ _ _=>cases h
 | osl j _ _=>cases h
 | mit j _ _ _ _ _=>cases h
 | _=>exact ⟨rfl,trivial⟩
theorem aAT {fr:List D}:∀ {xs:List AX} {d:D},d∈evs fr xs→∃ x∈xs,d=x.ev fr
 | [],_,h=>by simp [evs] at h
 | x::xs,d,h=>by
  simp only [evs,List.mem_cons] at h
  rcases h with h | h
  ·exact ⟨x,by simp,h⟩
  ·obtain ⟨y,h1,h2⟩:=aAT h
   exact ⟨y,List.mem_cons_of_mem _ h1,h2⟩
theorem aL7 (r:Rel F B np w0 ext σ0 G s a w) (hcl:Clean lo hi s) {xs:List AX} (h:xs.all nQ=true):∀ d∈evs s.fr xs,d.names lo hi=false∧yQ lo hi d:=by
 intro d hd
 obtain ⟨x,hx,rfl⟩:=aAT hd
 have hx:=List.all_eq_true.1 h x hx
 cases x with
 | t i =>
  simp only [AX.ev]
  by_cases hi':i < s.fr.length
  ·exact ⟨hcl.fr i hi',(r.slots i hi').flat⟩
  ·rw [iE s.fr D.dead (Nat.le_of_not_lt hi')]
   exact ⟨rfl,trivial⟩
 | c d=>exact pY hx
theorem aJ1 (r:Rel F B np w0 ext σ0 G s a w) (hcl:Clean lo hi s):∀ i f cs,s.hp i=some (f,cs)→¬(lo≤i∧i < hi)∧names lo hi cs=false∧∀ e∈cs,Cell e:=by
 intro i f cs h
 refine ⟨(hcl.hp i f cs h).1,(hcl.hp i f cs h).2,fun e he=>?_⟩
 cases f with
 | false =>
  by_cases hna:fK cs=false
  rotate_left
  ·rcases aCI (by simpa using hna) with ⟨w,z,n,g,rfl⟩ | ⟨m,c,va,nl,n,ks,vs,rfl⟩ | ⟨i,j,b,c,k,q,rfl⟩ <;>
    (simp only [List.mem_cons,List.not_mem_nil,or_false] at he; rcases he with rfl | rfl <;> trivial)
  obtain ⟨_,_,hh,_⟩:=r.mem.vars i cs h hna
  rcases hh.cell with hs | ⟨t,p,rfl⟩ | ⟨x,va,n,ks,vs,rfl⟩
  ·exact gP hs e he
  rotate_left
  ·simp only [List.mem_cons,List.not_mem_nil,or_false] at he
   rcases he with rfl | rfl
   ·by_cases hx:e=.dead
    ·rw [hx]
     trivial
    ·rcases (r.mem.lins i e va n ks vs h hx).1.2 with rfl | ⟨k,rfl⟩ <;> trivial
   ·trivial
  ·simp only [List.mem_cons,List.not_mem_nil,or_false] at he
   rcases he with rfl | rfl | rfl <;> trivial
 | true =>
  obtain ⟨j,hj,rfl⟩:=List.mem_iff_getElem.1 he
  obtain ⟨v,_,_,h3⟩:=r.mem.froz i cs h j hj
  rw [dN cs _ hj] at h3
  rw [h3]
  exact dE _
theorem cY {o:Out} {k:D→Upd→Prop} (h:o.then k):∃ v u,o.holds v u∧k v u:=by
 cases o with
 | bad=>exact h.elim
 | ok v u=>exact ⟨v,u,.inl rfl,h⟩
 | ask p v u=>exact ⟨v,u,.inr (.inl ⟨p,h.1,rfl⟩),h.2⟩
 | chk b v u =>
  cases b with
  | true=>exact ⟨v,u,.inr (.inr (.inl rfl)),h⟩
  | false=>exact h.elim
 | alt b v u v' u' =>
  cases b with
  | true=>exact ⟨v,u,.inr (.inr (.inr (.inl ⟨v',u',rfl⟩))),h⟩
  | false=>exact ⟨v',u',.inr (.inr (.inr (.inr ⟨v,u,rfl⟩))),h⟩
theorem gO {o:Out} {k:D→Upd→Prop} {v:D} {u:Upd} (h:o.holds v u) (hk:k v u):o.then k:=by
 rcases h with rfl | ⟨p,hp,rfl⟩ | rfl | ⟨_,_,rfl⟩ | ⟨_,_,rfl⟩
 ·exact hk
 ·exact ⟨hp,hk⟩
 ·exact hk
 ·exact hk
 ·exact hk
def St.next (s:St) (dst:Option Nat) (v:D) (u:Upd):St:=⟨fI dst v s.fr,bX s.hp u.h,cI s.tk u.t⟩
theorem aKK (r:Rel F B np w0 ext σ0 G s a w) (hcl:Clean lo hi s) {ao:AOp} {xs:List AX} (hok:kC ao=true) (hax:xs.all nQ=true) {id:Nat} (hid:id+bE ao≤lo∨hi≤id) {v:D} {u:Upd}
  (hh:(aP ao id s.hp s.tk (evs s.fr xs)).holds v u) (dst:Option Nat):Clean lo hi (s.next dst v u):=by
 obtain ⟨h1,h2,h3⟩:=zS hh hok (aL7 r hcl hax) (aJ1 r hcl) hcl.tk hid
 exact hcl.after h1 h2 h3 dst
theorem aJF (r:Rel F B np w0 ext σ0 G s a w) {it id:Nat} (hnp:np≤id) (hcl:Clean id (id+1) s) {x:Value} (hx:Rd F G s.tk x (.ptr it 0)) (ty:TypeId) {k:D→Upd→Prop} (h:nU it s.hp (s.hp it) k) (dst:Option Nat) :
  ∃ v u w' r' v' G',k v u∧aDS it s.hp v u∧(((Instr.next x false ty).run P w).andThen fun v w=>Result.ok (Next.value v) w)=.ok r' w'∧(r'=.value v'∨r'=.skip∧v'=undef)∧Rel F B np w0 ext σ0 G' (s.next dst v u) (a.put dst v') w':=by
 obtain ⟨v,u,h0,h00,w',r',v',G',h1,h2,h3,h4,h5⟩:=aBW r.mem hx id 1 ty h
 exact ⟨v,u,w',r',v',G',h0,h00,h1,h2,r.put hnp hcl h5 h3 h4 dst⟩
theorem aEF (r:Rel F B np w0 ext σ0 G s a w) (hcl:Clean lo hi s) {it:Nat} {v:D} {u:Upd} (hh:aDS it s.hp v u) (dst:Option Nat):Clean lo hi (s.next dst v u):=by
 obtain ⟨h1,h2,h3⟩:=vC hh (aJ1 r hcl)
 exact hcl.after h1 h2 (by rw [h3]; simp) dst
theorem aL5 (hft:∀ f j,ag ft f=some j→F j=f) (r:Rel F B np w0 ext σ0 G s a w) {o:Oper} {ao:AOp} {xs:List AX} (ht:aFH P ft np o=some (ao,xs)) (hnc:dY ao=false) {id:Nat} (hnp:np≤id) (hcl:Clean id (id+bE ao) s) {v:D} {u:Upd}
  (hh:(aP ao id s.hp s.tk (evs s.fr xs)).holds v u) (dst:Option Nat) :
  ∃ w' r' v' G',(execOp a.eval o).run P w=.ok r' w'∧(r'=.value v'∨r'=.skip∧v'=undef)∧Rel F B np w0 ext σ0 G' (s.next dst v u) (a.put dst v') w':=by
 obtain ⟨w',r',v',G',h1,h2,h3,h4,h5⟩:=aLI hft r o ao xs ht hnc id hnp hcl v u hh
 exact ⟨w',r',v',G',h1,h2,r.put hnp hcl h5 h3 h4 dst⟩
end
def G0 (σ:Og) (ext:List Nat):Gh:=⟨σ.σ,fun k=>ext.getD k 0,fun _=>undef,σ.η,fun _=>none,σ.φ⟩
def aMO (σ:Og) (w:World) (ext:List Nat) (k z n:Nat) (g:Nat→List D):Prop :=
 ∃ a c,σ.η k n=some (.slice a n c)∧n≤c∧(∀ m,m≠n→σ.η k m=none)∧(0 < c→a=some ⟨ext.getD k 0,0,none⟩∧(∀ q,σ (ext.getD k 0) q=none)∧∃ o,w.heap[ext.getD k 0]? = some o∧RowO σ.σ o z n c g)
abbrev aL1 (φ:Nat→Option Fo) (σ:Sg) (b m va:Nat) (nl:Nat→Bool) (n:Nat→Nat) (ks:Nat→Nat→ByteArray) (vs:Nat→Nat→List D):Prop :=
 ObjAt ⟨σ,fun _=>0,fun _=>undef,fun _ _=>none,fun _=>none,φ⟩ b m va nl n ks vs
structure CPre (F:Nat→FuncId) (σ:Og) (w:World) (ext:List Nat) (vals:Array Value) (ds:List D) (bs:List (List D)):Prop where
 stab:∀ b o v,σ b o=some v→v.oneCell'=true∧∃ c e fz,w.heap[b]? = some (.cells c e fz)∧c[o]? = some v
 size:vals.size=ds.length
 args:∀ j,j < ds.length→Rd F (G0 σ ext) (fun _=>none) (vals.getD j undef) (nth ds j .dead)
 clean:∀ j,j < ds.length→∀ h,(nth ds j .dead).names bs.length h=false
 len:ext.length=bs.length
 nodup:∀ i j,i < bs.length→j < bs.length→ext.getD i 0=ext.getD j 0→i=j
 frn:∀ b x,σ.φ b=some x→(∀ o,σ b o=none)∧w.heap[b]? = some x.ob∧∃ k,k < bs.length∧bS (bs.getD k [])=true∧x.id=ext.getD k 0
 uniq:∀ b b' x x',σ.φ b=some x→σ.φ b'=some x'→x.id=x'.id→x.q=x'.q→b=b'
 nofrn:∀ k,k < bs.length→bS (bs.getD k [])=false→σ.φ (ext.getD k 0)=none
 blocks:∀ k,k < bs.length→(∃ z n g,bs.getD k []=[.dead,.arr false z n g]∧aMO σ w ext k z n g)∨(∃ m va nl n ks vs,bs.getD k []=[.dead,.obj m 0 va nl n ks vs]∧aL1 σ.φ σ.σ (ext.getD k 0) m va nl n ks vs)∨aH (bs.getD k [])=true∧(∃ c e,w.heap[ext.getD k 0]? = some (.cells c e (0,0))∧c.size=(bs.getD k []).length ∧
  (∀ j,j < (bs.getD k []).length→Rp σ (c.getD j undef) (nth (bs.getD k []) j .dead)∧nth (bs.getD k []) j .dead=(nth (bs.getD k []) j .dead).pure1)∧∀ o,σ (ext.getD k 0) o=none)
def tN (σ:Sg) (w:World) (B:Nat) (v:Value):D→Prop
 | .agg c=>∃ cs,v=.agg cs∧cs.size=c.length∧∀ j,j < c.length→Rp σ (cs.getD j undef) (nth c j .dead).pure1
 | .slice (.own _) z n g=>Rp σ v (.slice .ro z n g)∧∃ a c,v=.slice a n c∧n≤c∧(n < c→∃ b cur e,a=some ⟨b,0,none⟩∧w.heap[b]? = some (.cells cur e (0,0))∧cur.size=c * z∧(∀ o,n * z≤o→σ b o=none)∧B≤b)
 | .newp l=>∃ b c e,v=.pointer (some ⟨b,0,none⟩)∧B≤b∧w.heap[b]? = some (.cells c e (0,0))∧c.size=l.length∧(∀ j,j < l.length→Rp σ (c.getD j undef) (nth l j .dead).pure1)∧∀ o,σ b o=none
 | .arr _ z n g=>∃ a c,v=.slice a n c∧n≤c∧(0 < c→∃ b,a=some ⟨b,0,none⟩∧B≤b∧(∀ o,σ b o=none)∧∃ o,w.heap[b]? = some o∧RowO σ o z n c g)
 | d=>Rp σ v d.pure1
def dG (v:Value) (d:D) (b:Nat):Prop:=∃ i z n g c,d=.slice (.own i) z n g∧v=.slice (some ⟨b,0,none⟩) n c∧n < c
def fB (vs:Array Value):Value:=if h:vs.size=1 then vs[0] else .tuple vs
def uG (v:Value) (d:D) (b:Nat):Prop :=
 dG v d b∨(∃ l,d=.newp l∧v=.pointer (some ⟨b,0,none⟩))∨∃ w z n g c,d=.arr w z n g∧v=.slice (some ⟨b,0,none⟩) n c∧0 < c
structure uL (σ:Og) (B:Nat) (ext:List Nat) (w':World) (σ':Sg) (rs:List D) (bs':List (List D)) (vs:Array Value) (φ':Nat→Option Fo):Prop where
 mono:∀ b x,σ.φ b=some x→∃ o,φ' b=some ⟨x.id,x.q,o⟩
 fresh:∀ b x,φ' b=some x→(∃ o,σ.φ b=some ⟨x.id,x.q,o⟩)∨B≤b
 heap:∀ b x,φ' b=some x→w'.heap[b]? = some x.ob∧∀ o,σ' b o=none
 hdr:∀ b x,φ' b=some x→∃ o,σ.φ x.id=some ⟨x.id,0,o⟩
 uniq:∀ b b' x x',φ' b=some x→φ' b'=some x'→x.id=x'.id→x.q=x'.q→b=b'
 objs:∀ k m c va nl n ks vs,k < bs'.length→k < ext.length→bs'.getD k []=[.dead,.obj m c va nl n ks vs]→(∃ o,σ.φ (ext.getD k 0)=some ⟨ext.getD k 0,0,o⟩)→aL1 φ' σ' (ext.getD k 0) m va nl n ks vs
 res:∀ j b,j < rs.length→uG (vs.getD j undef) (nth rs j .dead) b→φ' b=none
structure CPost (σ:Og) (w:World) (ext:List Nat) (w':World) (σ':Sg) (rs:List D) (bs':List (List D)) (vs:Array Value):Prop where
 stab:∀ b o v,σ' b o=some v→v.oneCell'=true∧∃ c e fz,w'.heap[b]? = some (.cells c e fz)∧c[o]? = some v
 le:SgLe σ.σ σ'
 old:∀ b o,b < w.heap.size→σ' b o=σ b o
 os:w'.os=w.os
 tape:w'.tape=w.tape
 output:w'.output=w.output
 base:w.heap.size≤w'.heap.size
 keep:∀ b,b < w.heap.size→b ∉ ext→σ.φ b=none→w'.heap[b]? = w.heap[b]?
 rows:∀ k f z n g,k < bs'.length→k < ext.length→bs'.getD k []=[.dead,.arr f z n g]→∃ a c,σ.η k n=some (.slice a n c)∧∀ b,a=some ⟨b,0,none⟩→0 < c→∃ o,w'.heap[b]? = some o∧RowO σ' o z n c g
 blocks:∀ k,k < bs'.length→k < ext.length→aH (aK (bs'.getD k []))=true→∃ c e,w'.heap[ext.getD k 0]? = some (.cells c e (0,0))∧c.size=(bs'.getD k []).length ∧
  ∀ j,j < (bs'.getD k []).length→Rp σ' (c.getD j undef) (nth (bs'.getD k []) j .dead).pure1
 size:vs.size=rs.length
 res:∀ j,j < rs.length→tN σ' w' w.heap.size (vs.getD j undef) (nth rs j .dead)
 own:∀ i j b,i < rs.length→j < rs.length→dG (vs.getD i undef) (nth rs i .dead) b→dG (vs.getD j undef) (nth rs j .dead) b→i=j
 objs:∃ φ',uL σ w.heap.size ext w' σ' rs bs' vs φ'
structure bT (P:Program) (F:Nat→FuncId) (f:FuncId) (C:aO):Prop where
 enter:∀ (args:Array Value) (w:World),(callFunc f args).run P w=.ok (.enter f args) w
 mono:∀ ds bs K K',(∀ rs bs',K rs bs'→K' rs bs')→C ds bs K→C ds bs K'
 feas:∀ ds bs K,C ds bs K→∃ rs bs',K rs bs'
 calls:∀ σ w ext vals ds bs K,CPre F σ w ext vals ds bs→C ds bs K→Calls P f vals w fun e w'=>∃ vs rs bs' σ',e=.returned (fB vs)∧K rs bs'∧CPost σ w ext w' σ' rs bs' vs
structure aMX (P:Program) (F:Nat→FuncId) (f:FuncId) (C:aO):Prop where
 mono:∀ ds bs K K',(∀ rs bs',K rs bs'→K' rs bs')→C ds bs K→C ds bs K'
 feas:∀ ds bs K,C ds bs K→∃ rs bs',K rs bs'
 calls:∀ σ w ext vals ds bs K,CPre F σ w ext vals ds bs→C ds bs K→∃ w' vs rs bs' σ',(callFunc f vals).run P w=.ok (.value (fB vs)) w'∧K rs bs'∧CPost σ w ext w' σ' rs bs' vs
def COk (P:Program) (F:Nat→FuncId) (f:FuncId) (C:aO):Prop:=bT P F f C∨aMX P F f C
theorem COk.mono {P:Program} {F:Nat→FuncId} {f:FuncId} {C:aO} (h:COk P F f C):∀ ds bs K K',(∀ rs bs',K rs bs'→K' rs bs')→C ds bs K→C ds bs K':=h.elim (·.mono) (·.mono)
theorem COk.feas {P:Program} {F:Nat→FuncId} {f:FuncId} {C:aO} (h:COk P F f C):∀ ds bs K,C ds bs K→∃ rs bs',K rs bs':=h.elim (·.feas) (·.feas)
def EnvOk (P:Program) (F:Nat→FuncId) (E:Env):Prop:=(∀ j q,F (j+1000 * q)=F j)∧∀ j C,ag E j=some C→COk P F (F j) C
theorem EnvOk.get {P:Program} {F:Nat→FuncId} {E:Env} (h:EnvOk P F E) {id f:Nat} {C:aO} (hc:agc E id f=some C):COk P F (F f) C:=by
 unfold agc at hc
 split at hc
 ·rename_i C' h1
  cases hc
  have:=h.2 _ _ h1
  rw [h.1] at this
  exact this
 ·exact h.2 _ _ hc
theorem aMF {E:Env} {id f:Nat} {C:aO} (hc:agc E id f=some C):∃ j,ag E j=some C:=by
 unfold agc at hc
 split at hc
 ·rename_i C' h1
  cases hc
  exact ⟨_,h1⟩
 ·exact ⟨_,hc⟩
section
variable {P:Program} {F:Nat→FuncId} {B np:Nat} {w0 w w':World} {ext:List Nat} {σ0:Og} {G G':Gh} {s:St} {a:Act} {hp:Nat→Option (Bool×List D)} {tk:Nat→Option (Nat×Nat)}
theorem eY:∀ {l:List (Nat×Nat×Nat)} {tk:Nat→Option (Nat×Nat)} {j:Nat},(∀ x∈l,x.1≠j)→cI tk l j=tk j
 | [],_,_,_=>rfl
 | (i,e)::l,tk,j,h=>by
  simp only [cI]
  rw [eY (fun x hx=>h x (List.mem_cons_of_mem _ hx))]
  have:Nat.beq j i=false:=by
   cases hh:Nat.beq j i with
   | false=>rfl
   | true=>exact absurd (Nat.eq_of_beq_eq_true hh).symm (h (i,e) (by simp))
  rw [this]
  rfl
theorem gT:∀ (l:List D) (i:Nat) (x:Nat×Nat×Nat),x∈aW l i→i≤x.1
 | [],_,_,h=>by simp [aW] at h
 | d::l,i,x,h=>by
  have other:x∈aW l (i+1)→i≤x.1:=fun h=>by have:=gT l (i+1) x h; omega
  cases d with
  | slice t z n g =>
   cases t with
   | own j =>
    simp only [aW,List.mem_cons] at h
    rcases h with rfl | h
    ·exact Nat.le_refl _
    ·exact other h
   | _=>exact other h
  | _=>exact other h
def j6 (l:List D) (i j:Nat):Option (Nat×Nat):=match nth l (j - i) .dead with
 | .slice (.own _) z n _=>if i≤j∧j < i+l.length then some (z,n) else none
 | _=>none
theorem fW:∀ (l:List D) (i:Nat) (tk:Nat→Option (Nat×Nat)) (j:Nat),cI tk (aW l i) j=match j6 l i j with
  | some e=>some e
  | none=>tk j
 | [],i,tk,j=>by simp [aW,cI,j6,nth]
 | d::l,i,tk,j=>by
  have hlt:j < i→cI tk (aW (d::l) i) j=tk j:=fun h=>eY fun x hx=>by have:=gT _ _ _ hx; omega
  rcases Nat.lt_trichotomy j i with h | h | h
  ·rw [hlt h]
   have:j6 (d::l) i j=none:=by
    unfold j6
    split
    ·rw [if_neg (by omega)]
    ·rfl
   rw [this]
  ·subst h
   have h0:∀ tk',cI tk' (aW l (j+1)) j=tk' j:=fun tk'=>eY fun x hx=>by have:=gT _ _ _ hx; omega
   cases d with
   | slice t z n g =>
    cases t with
    | own q =>
     simp only [aW,cI]
     rw [h0]
     simp [j6,nth]
    | ro=>simp only [aW]; rw [h0]; simp [j6,nth]
    | full=>simp only [aW]; rw [h0]; simp [j6,nth]
   | _=>simp only [aW]; rw [h0]; simp [j6,nth]
  ·have h1:j6 (d::l) i j=j6 l (i+1) j:=by
    unfold j6
    rw [show j - i=(j - (i+1))+1 from by omega]
    simp only [nth,List.length_cons]
    split
    ·congr 1
     simp only [eq_iff_iff]
     omega
    ·rfl
   rw [h1]
   cases d with
   | slice t z n g =>
    cases t with
    | own q =>
     simp only [aW,cI]
     rw [fW l (i+1)]
     have:Nat.beq j i=false:=by
      cases hh:Nat.beq j i with
      | false=>rfl
      | true=>have:=Nat.eq_of_beq_eq_true hh; omega
     rw [this]
     rfl
    | ro=>simp only [aW]; exact fW l (i+1) tk j
    | full=>simp only [aW]; exact fW l (i+1) tk j
   | _=>simp only [aW]; exact fW l (i+1) tk j
theorem cU (l:List D):(aZ l).length=l.length:=by
 induction l with
 | nil=>rfl
 | cons d l ih=>simp [aZ,ih]
theorem gY (l:List D) (j:Nat):nth (aZ l) j .dead=(nth l j .dead).res:=by
 induction l generalizing j with
 | nil=>rfl
 | cons d l ih=>cases j with
  | zero=>rfl
  | succ j=>exact ih j
theorem eP (l:List D) (i:Nat):(cN l i).length=l.length:=by
 induction l generalizing i with
 | nil=>rfl
 | cons d l ih =>
  cases d with
  | slice t z n g=>cases t <;> simp [cN,ih]
  | _=>simp [cN,ih]
def D.own (i:Nat):D→D
 | .slice (.own _) z n g=>.slice (.own i) z n g
 | d=>d
theorem oO (l:List D) (i j:Nat):nth (cN l i) j .dead=(nth l j .dead).own (i+j):=by
 induction l generalizing i j with
 | nil=>rfl
 | cons d l ih =>
  cases j with
  | zero =>
   cases d with
   | slice t z n g=>cases t <;> rfl
   | _=>rfl
  | succ j =>
   have h1:=ih (i+1) j
   rw [show i+1+j=i+(j+1) from by omega] at h1
   cases d with
   | slice t z n g=>cases t <;> exact h1
   | _=>exact h1
theorem bM (w:Bool) (cs:List D):(∃ w' z n g,cs=[.dead,.arr w' z n g]∧eU w cs=[.dead,.arr w z n g])∨(∃ m c va nl n ks vs,cs=[.dead,.obj m c va nl n ks vs]∧eU w cs=[.dead,.obj m 0 va nl n ks vs])∨(cZ cs=false∧bS cs=false∧eU w cs=aK cs):=by
 cases h:cZ cs with
 | true =>
  obtain ⟨w',z,n,g,rfl⟩:=dS h
  exact .inl ⟨w',z,n,g,rfl,rfl⟩
 | false =>
  cases h2:bS cs with
  | true =>
   obtain ⟨m,c,va,nl,n,ks,vs,rfl⟩:=cJ h2
   exact .inr (.inl ⟨m,c,va,nl,n,ks,vs,rfl,rfl⟩)
  | false =>
   refine .inr (.inr ⟨rfl,rfl,?_⟩)
   unfold eU
   split
   ·cases h
   ·cases h2
   ·rfl
theorem w8 {w:Bool} {cs:List D} (h:fK cs=false):eU w cs=aK cs:=by
 rcases bM w cs with ⟨_,_,_,_,rfl,_⟩ | ⟨_,_,_,_,_,_,_,rfl,_⟩ | ⟨_,_,h1⟩
 ·cases h
 ·cases h
 ·exact h1
theorem b7 {k:Nat} {cs:List D} (h:bS cs=false):rD k cs=cs:=by
 unfold rD
 split
 ·cases h
 ·rfl
theorem bO (cs:List D):fK (aK cs)=false:=by
 cases hh:fK (aK cs) with
 | false=>rfl
 | true =>
  have e:=aS cs 1
  rcases aCI hh with ⟨_,_,_,_,h⟩ | ⟨_,_,_,_,_,_,_,h⟩ | ⟨_,_,_,_,_,_,h⟩ <;>
   (rw [h] at e; generalize nth cs 1 D.dead=d at e; cases d <;> simp [nth,D.pure1] at e)
theorem t8:∀ (ids:List Nat) (bs:List (List D)) (hp0 hp:Nat→Option (Bool×List D)),dO ids=true→ids.length=bs.length→∀ j x,bX hp (aY hp0 ids bs) j=some x →
  (∃ k,k < ids.length∧ids.getD k 0=j∧x=(false,rD (ctr hp0 j) (eU (flg hp0 j) (bs.getD k []))))∨(j ∉ ids∧hp j=some x)
 | [],[],hp0,hp,_,_,j,x,h=>.inr ⟨by simp,h⟩
 | [],_::_,_,_,_,h,_,_,_=>by simp at h
 | _::_,[],_,_,_,h,_,_,_=>by simp at h
 | id::ids,b::bs,hp0,hp,hd,hl,j,x,h=>by
  simp only [aY,bX] at h
  have hd2:ids.any (Nat.beq id)=false∧dO ids=true:=by
   simp only [dO] at hd
   cases hh:ids.any (Nat.beq id) with
   | true=>rw [hh] at hd; cases hd
   | false=>rw [hh] at hd; exact ⟨rfl,hd⟩
  rcases t8 ids bs hp0 _ hd2.2 (by simpa using hl) j x h with ⟨k,h1,h2,h3⟩ | ⟨h1,h2⟩
  ·exact .inl ⟨k+1,by simpa using h1,by simpa using h2,by simpa using h3⟩
  ·rcases aL h2 with ⟨rfl,rfl⟩ | ⟨h3,h4⟩
   ·exact .inl ⟨0,by simp,by simp,by simp⟩
   ·exact .inr ⟨by simp [h1,h3],h4⟩
theorem dV:∀ {ids:List Nat} {bs:List (List D)},cQ hp ids=some bs→ids.length=bs.length∧∀ k,k < ids.length→∃ cs,hp (ids.getD k 0)=some (false,cs)∧bs.getD k []=eU false cs∧okB (eU false cs)=true
 | [],bs,h=>by cases h; exact ⟨rfl,fun k hk=>by simp at hk⟩
 | id::l,bs,h=>by
  simp only [cQ] at h
  split at h
  ·rename_i cs r h1 h2
   cases hs:okB (eU false cs) with
   | false=>rw [hs] at h; cases h
   | true =>
    rw [hs] at h
    cases h
    obtain ⟨h3,h4⟩:=dV h2
    refine ⟨by simp [h3],fun k hk=>?_⟩
    cases k with
    | zero=>exact ⟨cs,by simpa using h1,by simp,hs⟩
    | succ k=>simpa using h4 k (by simpa using hk)
  ·cases h
theorem mZ:∀ {l:List Nat},dO l=true→l.Nodup
 | [],_=>List.nodup_nil
 | a::l,h=>by
  simp only [dO] at h
  cases hh:l.any (Nat.beq a) with
  | true=>rw [hh] at h; cases h
  | false =>
   rw [hh] at h
   refine List.nodup_cons.2 ⟨fun hm=>?_,mZ h⟩
   have:=List.any_eq_false.1 hh a hm
   rw [Nat.beq_refl] at this
   exact this rfl
theorem oD:∀ {bs bs':List (List D)},nD bs bs'=true→bs'.length=bs.length∧∀ k,k < bs.length→okB (eU false (bs'.getD k []))=true∧cZ (bs'.getD k [])=cZ (bs.getD k [])∧rX (bs.getD k [])=rX (bs'.getD k [])
 | [],[],_=>⟨rfl,fun k hk=>by simp at hk⟩
 | [],_::_,h=>by cases h
 | _::_,[],h=>by cases h
 | b::bs,c::bs',h=>by
  simp only [nD,Bool.and_eq_true] at h
  obtain ⟨⟨⟨⟨h1,h2⟩,h3⟩,h4⟩,h5⟩:=h
  obtain ⟨h6,h7⟩:=oD h5
  refine ⟨by simp [h6],fun k hk=>?_⟩
  cases k with
  | zero =>
   refine ⟨by simpa using h1,?_,?_⟩
   ·simp only [List.getD_cons_zero]
    cases h3:cZ b <;> cases h4:cZ c <;> simp [h3,h4,eqBB] at h2 ⊢
   ·simp only [List.getD_cons_zero]
    exact Prod.ext (Nat.eq_of_beq_eq_true h3) (Nat.eq_of_beq_eq_true h4)
  | succ k=>simpa using h7 k (by simpa using hk)
theorem vL {cs cs':List D} (h:rX cs=rX cs'):bS cs=bS cs':=by
 have key:∀ l:List D,bS l=true↔(rX l).1≠0:=fun l=>by
  constructor
  ·intro h1
   obtain ⟨m,c,va,nl,n,ks,vs,rfl⟩:=cJ h1
   simp [rX]
  ·intro h1
   unfold rX at h1
   split at h1
   ·rfl
   ·exact absurd rfl h1
 cases h1:bS cs with
 | true =>
  have:=(key cs).1 h1
  rw [h] at this
  exact ((key cs').2 this).symm
 | false =>
  cases h2:bS cs' with
  | false=>rfl
  | true =>
   have:=(key cs').1 h2
   rw [← h] at this
   rw [(key cs).2 this] at h1
   cases h1
theorem aMI {σ':Sg} {B':Nat} {v:Value} {d:D} {i:Nat} (h:tN σ' w' B' v d) {G':Gh} {tk':Nat→Option (Nat×Nat)} (hσ:G'.σ=σ') (hown:∀ q z n g,d=.slice (.own q) z n g→tk' i=some (z,n)∧G'.ρ i=v):Rt F G' tk' v (d.res.own i):=by
 subst hσ
 cases d with
 | agg c =>
  obtain ⟨cs,rfl,h1,h2⟩:=h
  exact .agg cs (aK c) (by rw [aM]; exact h1) fun j hj=>by
   rw [aM] at hj
   rw [aS]
   exact ⟨h2 j hj,(bJ _).symm⟩
 | slice t z n g =>
  cases t with
  | own q =>
   obtain ⟨h1,h2⟩:=hown q z n g rfl
   refine .cell (.pure ?_ ?_)
   ·cases h.1 with
    | slice a _ c _ _ _ b o val e1 e2 e3 e4 e5=>exact .slice a n c _ z g b o val e1 e2 e3 e4 e5
   ·intro z' m' hz
    rw [h1] at hz
    cases hz
    exact ⟨Nat.le_refl _,fun _=>h2.symm⟩
  | ro=>exact .cell (.pure h trivial)
  | full=>exact .cell (.pure h trivial)
 | newp l=>exact .cell (.pure (.dead _) trivial)
 | arr w z n g=>exact .cell (.pure (.dead _) trivial)
 | _=>exact .cell (.pure h trivial)
def gH (G:Gh) (hp:Nat→Option (Bool×List D)) (hs id k:Nat):Nat :=
 match hp id with
 | some (_,[.dead,.arr _ _ n _])=>match G.η id n with
  | some (.slice (some a) _ (_+1))=>a.block
  | _=>hs+k
 | _=>G.β id
def zD (G:Gh) (hp:Nat→Option (Bool×List D)) (hs:Nat):List Nat→Nat→List Nat
 | [],_=>[]
 | id::l,k=>gH G hp hs id k::zD G hp hs l (k+1)
theorem yK:∀ (l:List Nat) (hs k:Nat),(zD G hp hs l k).length=l.length
 | [],_,_=>rfl
 | id::l,hs,k=>by simp [zD,yK l]
theorem yM:∀ (l:List Nat) (hs k j:Nat),j < l.length→(zD G hp hs l k).getD j 0=gH G hp hs (l.getD j 0) (k+j)
 | [],_,_,_,h=>by simp at h
 | id::l,hs,k,0,_=>rfl
 | id::l,hs,k,j+1,h=>by
  have:=yM l hs (k+1) j (by simpa using h)
  simp only [zD,List.getD_cons_succ]
  rw [this,show k+1+j=k+(j+1) from by omega]
def wJ (G:Gh) (hp:Nat→Option (Bool×List D)) (ids:List Nat):Nat→Nat→Option Value:=fun k m =>
 if k < ids.length then (match hp (ids.getD k 0) with
  | some (_,[.dead,.arr _ _ n _])=>if m=n then G.η (ids.getD k 0) n else none
  | _=>none) else none
def aHO:Option (Bool×List D)→Bool
 | some (_,cs)=>bS cs
 | none=>false
def eW (G:Gh) (hp:Nat→Option (Bool×List D)) (ids:List Nat):Nat→Option Fo:=fun b =>
 match G.φ b with
 | some x=>if ids.any (fun id=>aHO (hp id)&&Nat.beq (G.β id) x.id) then some x else none
 | none=>none
theorem b6 {ids:List Nat} {b:Nat} {x:Fo}:eW G hp ids b=some x↔G.φ b=some x∧∃ k,k < ids.length∧aHO (hp (ids.getD k 0))=true∧G.β (ids.getD k 0)=x.id:=by
 unfold eW
 cases h:G.φ b with
 | none=>simp
 | some y =>
  simp only [List.any_eq_true,Bool.and_eq_true,Option.ite_none_right_eq_some,Option.some.injEq]
  constructor
  ·rintro ⟨⟨id,h1,h2,h3⟩,rfl⟩
   obtain ⟨k,hk,rfl⟩:=List.mem_iff_getElem.1 h1
   have e:ids.getD k 0=ids[k]:=by simp [hk]
   exact ⟨rfl,k,hk,by rw [e]; exact h2,by rw [e]; exact Nat.eq_of_beq_eq_true h3⟩
  ·rintro ⟨rfl,k,hk,h2,h3⟩
   have e:ids.getD k 0=ids[k]:=by simp [hk]
   exact ⟨⟨ids[k],List.getElem_mem hk,by rw [← e]; exact h2,by rw [← e,h3]; exact Nat.beq_refl _⟩,rfl⟩
def fH (G:Gh) (hp:Nat→Option (Bool×List D)) (ids:List Nat):Og:=⟨G.σ,wJ G hp ids,eW G hp ids⟩
def dH (G:Gh) (hp:Nat→Option (Bool×List D)) (hs:Nat) (ids:List Nat):List Nat:=zD G hp hs ids 0
theorem lQ {ids:List Nat} {hs k:Nat} (hk:k < ids.length):(dH G hp hs ids).getD k 0=gH G hp hs (ids.getD k 0) k:=by
 have h1:=yM (G:=G) (hp:=hp) ids hs 0 k hk
 rw [Nat.zero_add] at h1
 exact h1
theorem pS {ids:List Nat} {hs:Nat}:(dH G hp hs ids).length=ids.length:=yK _ _ _
theorem aEZ {ids:List Nat} {hs b:Nat} (h:b∈dH G hp hs ids):∃ k,k < ids.length∧b=gH G hp hs (ids.getD k 0) k:=by
 obtain ⟨k,hk,rfl⟩:=List.mem_iff_getElem.1 h
 have hk':k < ids.length:=by rw [pS] at hk; exact hk
 exact ⟨k,hk',by rw [← lQ (G:=G) (hp:=hp) (hs:=hs) hk']; simp [hk]⟩
theorem fT {hs id k:Nat} {f:Bool} {cs:List D} (h:hp id=some (f,cs)) (ha:cZ cs=false):gH G hp hs id k=G.β id:=by
 unfold gH
 rw [h]
 split
 ·rename_i h1
  cases h1
  cases ha
 ·rfl
theorem sA {hs id k:Nat} {f fw:Bool} {z n:Nat} {g:Nat→List D} {b c:Nat} (h:hp id=some (f,[.dead,.arr fw z n g])) (hη:G.η id n=some (.slice (some ⟨b,0,none⟩) n c)) (hc:0 < c):gH G hp hs id k=b:=by
 unfold gH
 rw [h]
 simp only [hη]
 cases c with
 | zero=>omega
 | succ c=>rfl
theorem aFA {hs id k:Nat} {f fw:Bool} {z n:Nat} {g:Nat→List D} {a:Option Addr} (h:hp id=some (f,[.dead,.arr fw z n g])) (hη:G.η id n=some (.slice a n 0)):gH G hp hs id k=hs+k:=by
 unfold gH
 rw [h]
 simp only [hη]
theorem oW {ids:List Nat} {k:Nat} {f fw:Bool} {z n:Nat} {g:Nat→List D} (hk:k < ids.length) (h:hp (ids.getD k 0)=some (f,[.dead,.arr fw z n g])) (m:Nat):wJ G hp ids k m=if m=n then G.η (ids.getD k 0) n else none:=by
 unfold wJ
 rw [if_pos hk,h]
theorem tY (m:Mem F B np w0 ext σ0 G hp tk w) {ids:List Nat} {bs:List (List D)} (hb:cQ hp ids=some bs) {k:Nat} (hk:k < ids.length) :
  bN G hp tk (gH G hp w.heap.size (ids.getD k 0) k) (.inl (ids.getD k 0))∨gH G hp w.heap.size (ids.getD k 0) k=w.heap.size+k ∨
   ∃ mm c va nl n ks vs o,hp (ids.getD k 0)=some (false,[.dead,.obj mm c va nl n ks vs])∧gH G hp w.heap.size (ids.getD k 0) k=G.β (ids.getD k 0)∧eW G hp ids (G.β (ids.getD k 0))=some ⟨G.β (ids.getD k 0),0,o⟩:=by
 obtain ⟨_,hbs⟩:=dV hb
 obtain ⟨cs,h1,h2,h3⟩:=hbs k hk
 cases ha:cZ cs with
 | false =>
  rw [fT h1 ha]
  cases ho:bS cs with
  | true =>
   obtain ⟨mm,c,va,nl,n,ks,vs,rfl⟩:=cJ ho
   obtain ⟨_,_,g,_⟩:=m.obs.objs _ _ _ _ _ _ _ _ h1
   exact .inr (.inr ⟨mm,c,va,nl,n,ks,vs,_,h1,rfl,b6.2 ⟨g,k,hk,by rw [h1]; rfl,rfl⟩⟩)
  | false =>
   refine .inl ⟨cs,h1,.inl ⟨?_,rfl⟩⟩
   cases hm:eC cs with
   | false=>simp only [fK,ha,ho,hm,Bool.or_self]
   | true =>
    obtain ⟨_,_,_,_,_,_,rfl⟩:=fF hm
    simp [eU,okB,aK,D.pure1,aH,cZ,bS] at h3
 | true =>
  obtain ⟨fw,z,n,g,rfl⟩:=dS ha
  obtain ⟨a,c,hd,_⟩:=m.rows _ fw z n g h1
  by_cases hc:0 < c
  ·obtain ⟨b,rfl⟩:=hd.blk hc
   rw [sA h1 hd.at_ hc]
   exact .inl ⟨_,h1,.inr ⟨fw,z,n,g,c,rfl,hd.at_,hc⟩⟩
  ·have:c=0:=by omega
   subst this
   exact .inr (.inl (aFA h1 hd.at_))
theorem zM {f:Bool} {cs:List D} (h:okB (eU f cs)=true):eC cs=false:=by
 cases hm:eC cs with
 | false=>rfl
 | true =>
  obtain ⟨_,_,_,_,_,_,rfl⟩:=fF hm
  simp [eU,okB,aK,D.pure1,aH,cZ,bS] at h
def orφ (φ' φ:Nat→Option Fo):Nat→Option Fo:=fun b=>match φ' b with
 | some x=>some x
 | none=>φ b
theorem i3 {φ' φ:Nat→Option Fo} {b:Nat} {x:Fo} (h:φ' b=some x):orφ φ' φ b=some x:=by unfold orφ; rw [h]
theorem oF {φ' φ:Nat→Option Fo} {b:Nat} (h:φ' b=none):orφ φ' φ b=φ b:=by unfold orφ; rw [h]
section objs
variable {ids:List Nat} {bs bs':List (List D)} {σ':Sg} {rs:List D} {vs:Array Value} {φ':Nat→Option Fo}
theorem iV (m:Mem F B np w0 ext σ0 G hp tk w) (po:uL (fH G hp ids) w.heap.size (dH G hp w.heap.size ids) w' σ' rs bs' vs φ'):∀ b x,G.φ b=some x→∃ o,orφ φ' G.φ b=some ⟨x.id,x.q,o⟩:=fun b x h=>by
 cases hp':φ' b with
 | none=>exact ⟨x.ob,by rw [oF hp']; exact h⟩
 | some y =>
  rcases po.fresh b y hp' with ⟨o,h1⟩ | h1
  ·have h2:=(b6.1 h1).1
   rw [h] at h2
   cases h2
   exact ⟨y.ob,i3 hp'⟩
  ·obtain ⟨_,_,_,_,h2⟩:=m.frn b x h
   have:=(Array.getElem?_eq_some_iff.1 h2).1
   omega
theorem fV (m:Mem F B np w0 ext σ0 G hp tk w) (po:uL (fH G hp ids) w.heap.size (dH G hp w.heap.size ids) w' σ' rs bs' vs φ') {b:Nat} {x:Fo} (h:orφ φ' G.φ b=some x) :
  (φ' b=some x∧∃ k,k < ids.length∧aHO (hp (ids.getD k 0))=true∧G.β (ids.getD k 0)=x.id)∨(φ' b=none∧G.φ b=some x∧¬∃ k,k < ids.length∧aHO (hp (ids.getD k 0))=true∧G.β (ids.getD k 0)=x.id):=by
 cases hp':φ' b with
 | some y =>
  rw [i3 hp'] at h
  cases h
  obtain ⟨o,h1⟩:=po.hdr b x hp'
  exact .inl ⟨rfl,(b6.1 h1).2⟩
 | none =>
  rw [oF hp'] at h
  refine .inr ⟨rfl,h,fun hk=>?_⟩
  obtain ⟨o,h1⟩:=po.mono b x (b6.2 ⟨h,hk⟩)
  rw [hp'] at h1
  cases h1
theorem oK (m:Mem F B np w0 ext σ0 G hp tk w) (po:uL (fH G hp ids) w.heap.size (dH G hp w.heap.size ids) w' σ' rs bs' vs φ') {b:Nat} {x:Fo} (h:G.φ b=some x) (hn:¬∃ k,k < ids.length∧aHO (hp (ids.getD k 0))=true∧G.β (ids.getD k 0)=x.id):orφ φ' G.φ b=some x∧φ' b=none:=by
 cases hp':φ' b with
 | none=>exact ⟨by rw [oF hp']; exact h,rfl⟩
 | some y =>
  exfalso
  obtain ⟨o,h1⟩:=iV m po b x h
  rw [i3 hp'] at h1
  cases h1
  obtain ⟨o2,h2⟩:=po.hdr b _ hp'
  exact hn (b6.1 h2).2
end objs
theorem uQ (r:Rel F B np w0 ext σ0 G s a w) {id:Nat} (hnp:np≤id) (hcl:Clean id (id+4) s) {ids:List Nat} {bs bs':List (List D)} (hb:cQ s.hp ids=some bs) (hd:dO ids=true) {σ':Sg} {rs:List D} {vs:Array Value}
  (post:CPost (fH G s.hp ids) w (dH G s.hp w.heap.size ids) w' σ' rs bs' vs) {φ':Nat→Option Fo} (po:uL (fH G s.hp ids) w.heap.size (dH G s.hp w.heap.size ids) w' σ' rs bs' vs φ') (hback:nD bs bs'=true) (h4:rs.length≤4) :
  ∃ G',G'.σ=σ'∧G'.γ=G.γ∧G'.φ=orφ φ' G.φ∧Keeps id (id+4) G G' s.tk (cI s.tk (aW (aZ rs) id))∧Mem F B np w0 ext σ0 G' (bX s.hp (aY s.hp ids bs')) (cI s.tk (aW (aZ rs) id)) w' ∧
   (∀ b k,bN G' (bX s.hp (aY s.hp ids bs')) (cI s.tk (aW (aZ rs) id)) b k→b < w.heap.size∨∃ j q z n g,j < rs.length∧nth rs j .dead=.slice (.own q) z n g) ∧
   ∀ j,j < rs.length→Rt F G' (cI s.tk (aW (aZ rs) id)) (vs.getD j undef) (nth (cN (aZ rs) id) j .dead):=by
 have m:=r.mem
 obtain ⟨hl,hbs⟩:=dV hb
 obtain ⟨hlen,hbk⟩:=oD hback
 have hxl:(dH G s.hp w.heap.size ids).length=ids.length:=pS
 have hext:∀ k,k < ids.length→(dH G s.hp w.heap.size ids).getD k 0=gH G s.hp w.heap.size (ids.getD k 0) k:=fun k hk=>lQ hk
 have hlt:=fun k (hk:k < ids.length)=>tY m hb hk
 have hφlt:∀ b x,G.φ b=some x→b < w.heap.size:=fun b x hx=>(Array.getElem?_eq_some_iff.1 (m.frn b x hx).2.2.2.2).1
 have hrow:∀ k f z n g,k < ids.length→bs'.getD k []=[.dead,.arr f z n g]→∃ fw z0 g0 a c,s.hp (ids.getD k 0)=some (false,[.dead,.arr fw z0 n g0])∧aLW np σ0.η G.η (ids.getD k 0) fw n a c ∧
   (∀ b,a=some ⟨b,0,none⟩→0 < c→gH G s.hp w.heap.size (ids.getD k 0) k=b∧b < w.heap.size∧(∀ q,G.σ b q=none)∧∃ o,w'.heap[b]? = some o∧RowO σ' o z n c g):=by
  intro k f z n g hk hbk'
  obtain ⟨cs0,h5,h6,_⟩:=hbs k hk
  have ha:cZ cs0=true:=by
   have h1:=(hbk k (by omega)).2.1
   rw [hbk'] at h1
   rcases bM false cs0 with ⟨_,_,_,_,rfl,_⟩ | ⟨_,_,_,_,_,_,_,_,h8⟩ | ⟨_,_,h8⟩
   ·rfl
   ·rw [h6,h8] at h1
    cases h1
   ·rw [h6,h8,kX (bO cs0)] at h1
    cases h1
  obtain ⟨fw,z0,n0,g0,rfl⟩:=dS ha
  obtain ⟨a,c,h7,h8⟩:=m.rows _ fw z0 n0 g0 h5
  obtain ⟨a',c',h9,h10⟩:=post.rows k f z n g (by omega) (by omega) hbk'
  have h11:wJ G s.hp ids k n=some (.slice a' n c'):=h9
  rw [oW hk h5] at h11
  by_cases hn:n=n0
  ·subst hn
   rw [if_pos rfl,h7.at_] at h11
   cases h11
   refine ⟨fw,z0,g0,a,c,h5,h7,fun b hab hc=>?_⟩
   subst hab
   have h12:=sA (hs:=w.heap.size) (k:=k) h5 h7.at_ hc
   obtain ⟨h13,o,h14,_⟩:=h8 b rfl hc
   obtain ⟨o',h15,h16⟩:=h10 b rfl hc
   exact ⟨h12,(Array.getElem?_eq_some_iff.1 h14).1,h13,o',h15,h16⟩
  ·rw [if_neg hn] at h11
   cases h11
 have hflat:∀ k,k < ids.length→cZ (bs'.getD k [])=false→bS (bs'.getD k [])=false→∃ cs0,s.hp (ids.getD k 0)=some (false,cs0)∧fK cs0=false:=by
  intro k hk h1 h1'
  obtain ⟨cs0,h5,h6,h60⟩:=hbs k hk
  refine ⟨cs0,h5,?_⟩
  have h2:=(hbk k (by omega)).2.1
  have h3:=vL (hbk k (by omega)).2.2
  rw [h1,h6] at h2
  rw [h1',h6] at h3
  rcases bM false cs0 with ⟨_,_,_,_,rfl,h8⟩ | ⟨_,_,_,_,_,_,_,rfl,h8⟩ | ⟨h7,h7',h8⟩
  ·rw [h8] at h2
   cases h2
  ·rw [h8] at h3
   cases h3
  ·simp only [fK,h7,h7',zM h60,Bool.or_self]
 have hobj:∀ k m1 c va nl n ks vs,k < ids.length→bs'.getD k []=[.dead,.obj m1 c va nl n ks vs]→∃ c0 nl0 n0 ks0 vs0,s.hp (ids.getD k 0)=some (false,[.dead,.obj m1 c0 va nl0 n0 ks0 vs0]):=by
  intro k m1 c va nl n ks vs hk h1
  obtain ⟨cs0,h5,h6,h60⟩:=hbs k hk
  have h3:=(hbk k (by omega)).2.2
  rw [h6,h1] at h3
  rcases bM false cs0 with ⟨_,_,_,_,rfl,h8⟩ | ⟨_,_,_,_,_,_,_,rfl,h8⟩ | ⟨h7,h7',h8⟩
  ·rw [h8] at h3
   simp [rX] at h3
  ·rw [h8] at h3
   simp only [rX,Prod.mk.injEq,Nat.add_right_cancel_iff] at h3
   obtain ⟨rfl,rfl⟩:=h3
   exact ⟨_,_,_,_,_,h5⟩
  ·have:=vL h3
   rw [h8,bL (bO cs0)] at this
   cases this
 let G':Gh:=⟨σ',G.β,fun i=>if id≤i∧i < id+rs.length then vs.getD (i - id) undef else G.ρ i,G.η,G.γ,orφ φ' G.φ⟩
 have htk:∀ j z n,cI s.tk (aW (aZ rs) id) j=some (z,n)→(id≤j∧j < id+rs.length∧∃ q g,nth rs (j - id) .dead=.slice (.own q) z n g)∨(s.tk j=some (z,n)∧¬(id≤j∧j < id+4)):=by
  intro j z n h
  rw [fW] at h
  split at h
  ·rename_i e he
   cases h
   unfold j6 at he
   split at he
   ·rename_i q z' n' g hq
    split at he
    ·rename_i hr
     cases he
     rw [cU] at hr
     rw [gY] at hq
     refine .inl ⟨hr.1,hr.2,q,g,?_⟩
     generalize nth rs (j - id) .dead=d at hq
     cases d with
     | slice t z' n' g'=>cases t <;> simp_all [D.res,D.pure1]
     | _=>simp [D.res,D.pure1] at hq
    ·cases he
   ·cases he
  ·exact .inr ⟨h,hcl.tk _ _ h⟩
 have keeps:Keeps id (id+4) G G' s.tk (cI s.tk (aW (aZ rs) id)):=by
  refine ⟨post.le,fun _ _=>rfl,fun i z n hi h=>?_,fun _ _ _ _ h=>h,iV m po⟩
  rcases htk i z n h with ⟨h1,h2,_⟩ | ⟨h1,_⟩
  ·exact absurd ⟨h1,by omega⟩ hi
  ·exact ⟨z,n,h1,Nat.le_refl _,fun _=>by show (if id≤i∧i < id+rs.length then _ else G.ρ i)=G.ρ i; rw [if_neg (by omega)]⟩
 have keepB:∀ b,b < w.heap.size→(∀ k,k < ids.length→b≠gH G s.hp w.heap.size (ids.getD k 0) k)→eW G s.hp ids b=none→w'.heap[b]? = w.heap[b]?:=fun b h1 h2 h3=>post.keep b h1 (fun h=>by
  obtain ⟨k,hk,h4⟩:=aEZ h
  exact h2 k hk h4) h3
 have nφ:∀ b,G.φ b=none→eW G s.hp ids b=none:=fun b h=>by
  cases hh:eW G s.hp ids b with
  | none=>rfl
  | some x =>
   have:=(b6.1 hh).1
   rw [h] at this
   cases this
 have ownφ:∀ b k0,bN G s.hp s.tk b k0→G.φ b=none:=fun b k0 h=>by
  cases hh:G.φ b with
  | none=>rfl
  | some x=>exact absurd h ((m.frn b x hh).2.1 k0)
 have keepO:∀ b k0,bN G s.hp s.tk b k0→(∀ k,k < ids.length→k0≠.inl (ids.getD k 0))→w'.heap[b]? = w.heap[b]?:=fun b k0 h1 h2=>keepB b (m.own_lt h1) (fun k hk hh=>by
  rcases hlt k hk with h3 | h3 | ⟨_,_,_,_,_,_,_,o,_,h3,h4⟩
  ·rw [← hh] at h3
   exact h2 k hk (m.own1 _ _ _ h1 h3)
  ·have:=m.own_lt h1
   omega
  ·rw [h3] at hh
   have:=nφ _ (ownφ _ _ h1)
   rw [hh,h4] at this
   cases this) (nφ _ (ownφ _ _ h1))
 have resAt:∀ j q z n g,id≤j→j < id+rs.length→nth rs (j - id) .dead=.slice (.own q) z n g→∃ a' c,G'.ρ j=.slice a' n c∧n≤c∧(n < c→∃ b cur e,a'=some ⟨b,0,none⟩∧w'.heap[b]? = some (.cells cur e (0,0))∧cur.size=c * z∧(∀ o,n * z≤o→σ' b o=none)∧w.heap.size≤b):=by
  intro j q z n g h1 h2 h3
  have:=post.res (j - id) (by omega)
  rw [h3] at this
  obtain ⟨_,a',c,h5,h6,h7⟩:=this
  refine ⟨a',c,?_,h6,h7⟩
  show (if id≤j∧j < id+rs.length then _ else _)=_
  rw [if_pos ⟨h1,h2⟩,h5]
 have hz:=t8 ids bs' s.hp s.hp hd (by omega)
 have hpos:∀ k,k < ids.length→ids.getD k 0∈ids:=fun k hk=>by rw [List.getD_eq_getElem?_getD]; simp [hk]
 have hown:∀ b k,bN G' (bX s.hp (aY s.hp ids bs')) (cI s.tk (aW (aZ rs) id)) b k→bN G s.hp s.tk b k∨(w.heap.size≤b∧∃ j,k=.inr j∧id≤j∧j < id+rs.length∧dG (vs.getD (j - id) undef) (nth rs (j - id) .dead) b):=by
  intro b k hk
  cases k with
  | inl j =>
   obtain ⟨cs,h1,h2⟩:=hk
   have h2:Blk G j cs b:=h2
   rcases hz j _ h1 with ⟨k,hk,rfl,h3⟩ | ⟨_,h3⟩
   ·simp only [Prod.mk.injEq,true_and] at h3
    rcases bM (flg s.hp (ids.getD k 0)) (bs'.getD k []) with ⟨f,z,n,g,e1,e2⟩ | ⟨_,_,_,_,_,_,_,e1,e2⟩ | ⟨e1,e1',e2⟩
    ·rw [e2,b7 rfl] at h3
     subst h3
     obtain ⟨fw,z0,g0,a',c,h5,h6,_⟩:=hrow k f z n g hk e1
     rcases h2 with ⟨h7,_⟩ | ⟨_,_,_,_,c',h7,h8,h9⟩
     ·cases h7
     ·cases h7
      exact .inl ⟨_,h5,.inr ⟨_,_,_,_,c',rfl,h8,h9⟩⟩
    ·rw [e2] at h3
     subst h3
     exfalso
     rcases h2 with ⟨h7,_⟩ | ⟨_,_,_,_,_,h7,_⟩
     ·cases h7
     ·cases h7
    ·obtain ⟨cs0,h5,h6⟩:=hflat k hk e1 e1'
     refine .inl ⟨cs0,h5,.inl ⟨h6,h2.flat ?_⟩⟩
     rw [h3,e2,b7 (bL (bO _))]
     exact bO _
   ·exact .inl ⟨cs,h3,h2⟩
  | inr j =>
   obtain ⟨z,n,c,h1,h2,h3⟩:=hk
   rcases htk j z n h1 with ⟨h5,h6,q,g,h7⟩ | ⟨h5,h6⟩
   ·obtain ⟨a',c',h8,h9,h10⟩:=resAt j q z n g h5 h6 h7
    rw [h2] at h8
    cases h8
    obtain ⟨b',cur,e,h11,_,_,_,h12⟩:=h10 h3
    cases h11
    refine .inr ⟨h12,j,rfl,h5,h6,q,z,n,g,c,h7,?_,h3⟩
    have:G'.ρ j=vs.getD (j - id) undef:=by
     show (if id≤j∧j < id+rs.length then _ else _)=_
     rw [if_pos ⟨h5,h6⟩]
    rw [← this]
    exact h2
   ·refine .inl ⟨z,n,c,h5,?_,h3⟩
    rw [← h2]
    show G.ρ j=(if id≤j∧j < id+rs.length then _ else G.ρ j)
    rw [if_neg (by omega)]
 have mem:Mem F B np w0 ext σ0 G' (bX s.hp (aY s.hp ids bs')) (cI s.tk (aW (aZ rs) id)) w':=by
  refine ⟨post.stab,fun b o hB=>?_,post.os.trans m.os,post.tape.trans m.tape,post.output.trans m.output,Nat.le_trans m.base post.base,fun b hB he hf=>?_,fun j cs h hna=>?_,fun j fw z n g h=>?_,fun j cs h=>?_,fun j z n h=>?_,fun b k k' h h'=>?_,fun b k h=>?_,fun b r hr=>?_,fun j x va n ks vs h hx=>?_,fun b x hx=>?_,fun b x hx=>?_,?_,fun j x va n ks vs h=>?_⟩
  ·rw [← m.old b o hB]
   exact post.old b o (Nat.lt_of_lt_of_le hB m.base)
  ·rw [← m.keep b hB he hf]
   have hb0:=m.base
   have hφb:G.φ b=none:=by
    cases hh:G.φ b with
    | none=>rfl
    | some x =>
     rcases (m.frn b x hh).1 with h | ⟨o,h⟩
     ·omega
     ·rw [hf] at h
      cases h
   refine keepB b (Nat.lt_of_lt_of_le hB m.base) (fun k hk hbk=>?_) (nφ b hφb)
   rcases hlt k hk with h | h | ⟨_,_,_,_,_,_,_,o,_,h,h'⟩
   ·rcases m.own2 _ _ h with h | ⟨h,_⟩
    ·omega
    ·rw [← hbk] at h
     exact he h
   ·omega
   ·rw [h] at hbk
    have:=nφ b hφb
    rw [hbk,h'] at this
    cases this
  ·rcases hz j _ h with ⟨k,hk,rfl,h3⟩ | ⟨h2,h3⟩
   ·simp only [Prod.mk.injEq,true_and] at h3
    subst h3
    rcases bM (flg s.hp (ids.getD k 0)) (bs'.getD k []) with ⟨f,z,n,g,e1,e2⟩ | ⟨_,_,_,_,_,_,_,e1,e2⟩ | ⟨e1,e1',e2⟩
    ·rw [e2] at hna
     cases hna
    ·rw [e2] at hna
     cases hna
    ·rw [e2,b7 (bL (bO _))] at hna ⊢
     obtain ⟨cs0,h5,h50⟩:=hflat k hk e1 e1'
     obtain ⟨_,_,_,h6⟩:=m.vars _ cs0 h5 h50
     have ow:bN G s.hp s.tk (G.β (ids.getD k 0)) (.inl (ids.getD k 0)):=⟨cs0,h5,.inl ⟨h50,rfl⟩⟩
     have hsol:aH (aK (bs'.getD k []))=true:=by
      have:=(hbk k (by omega)).1
      rcases bM false (bs'.getD k []) with ⟨_,_,_,_,e3,_⟩ | ⟨_,_,_,_,_,_,_,e3,_⟩ | ⟨_,_,e3⟩
      ·rw [e3] at e1; cases e1
      ·rw [e3] at e1'; cases e1'
      ·rw [e3] at this
       unfold okB at this
       rw [kX hna,bL hna,Bool.or_false,Bool.or_false] at this
       exact this
     obtain ⟨c,e,h7,h8,h9⟩:=post.blocks k (by omega) (by omega) hsol
     rw [hext k hk,fT h5 (kX h50)] at h7
     refine ⟨_,h7,.inl ⟨hsol,c,e,rfl,by rw [aM]; exact h8,fun q hq=>?_⟩,fun o=>?_⟩
     ·rw [aM] at hq
      rw [aS]
      exact .pure (h9 q hq) (cC _ _)
     ·show σ' (G.β _) o=none
      rw [post.old _ o (m.own_lt ow)]
      exact h6 o
   ·obtain ⟨o1,h6,h8,h9⟩:=m.vars j cs h3 hna
    have ow:bN G s.hp s.tk (G.β j) (.inl j):=⟨cs,h3,.inl ⟨hna,rfl⟩⟩
    refine ⟨o1,?_,h8.imp fun q v hq hr=>hr.keep keeps (dT (hcl.hp j _ cs h3).2 hq),fun o=>?_⟩
    ·show w'.heap[G.β j]? = _
     rw [keepO _ _ ow fun k hk hh=>h2 (by cases hh; exact hpos k hk)]
     exact h6
    ·show σ' (G.β j) o=none
     rw [post.old _ o (m.own_lt ow)]
     exact h9 o
  ·rcases hz j _ h with ⟨k,hk,rfl,h3⟩ | ⟨h2,h3⟩
   ·simp only [Prod.mk.injEq,true_and] at h3
    rcases bM (flg s.hp (ids.getD k 0)) (bs'.getD k []) with ⟨f,z1,n1,g1,e1,e2⟩ | ⟨_,_,_,_,_,_,_,e1,e2⟩ | ⟨e1,e1',e2⟩
    ·rw [e2,b7 rfl] at h3
     obtain ⟨fw0,z0,g0,a',c,h5,h6,h7⟩:=hrow k f z1 n1 g1 hk e1
     have hfl:flg s.hp (ids.getD k 0)=fw0:=by unfold flg; rw [h5]
     rw [hfl] at h3
     cases h3
     refine ⟨a',c,h6,fun b hb hc=>?_⟩
     obtain ⟨_,h8,h9,o,h10,h11⟩:=h7 b hb hc
     exact ⟨fun q=>(post.old b q h8).trans (h9 q),o,h10,h11⟩
    ·rw [e2] at h3
     cases h3
    ·rw [e2,b7 (bL (bO _))] at h3
     have e4:=bO (bs'.getD k [])
     rw [← h3] at e4
     cases e4
   ·obtain ⟨a',c,h6,h7⟩:=m.rows j fw z n g h3
    refine ⟨a',c,h6,fun b hb hc=>?_⟩
    obtain ⟨h9,o,h10,h11⟩:=h7 b hb hc
    have ow:bN G s.hp s.tk b (.inl j):=⟨_,h3,.inr ⟨fw,z,n,g,c,rfl,by rw [h6.at_,hb],hc⟩⟩
    refine ⟨fun q=>(post.old b q (m.own_lt ow)).trans (h9 q),o,?_,h11.mono post.le⟩
    rw [keepO _ _ ow fun k hk hh=>h2 (by cases hh; exact hpos k hk)]
    exact h10
  ·rcases hz j _ h with ⟨k,hk,h2,h3⟩ | ⟨h2,h3⟩
   ·cases h3
   ·intro q hq
    obtain ⟨v,h5,h6,h7⟩:=m.froz j cs h3 q hq
    exact ⟨v,post.le _ _ _ h5,h6.mono post.le,h7⟩
  ·rcases htk j z n h with ⟨h5,h6,q,g,h7⟩ | ⟨h5,h6⟩
   ·obtain ⟨a',c',h8,h9,h10⟩:=resAt j q z n g h5 h6 h7
    refine ⟨a',c',h8,h9,fun hn=>?_⟩
    obtain ⟨b,cur,e,e1,e2,e3,e4,_⟩:=h10 hn
    exact ⟨b,cur,e,e1,e2,e3,e4⟩
   ·obtain ⟨a',c',h8,h9,h10⟩:=m.toks j z n h5
    refine ⟨a',c',?_,h9,fun hn=>?_⟩
    ·show (if id≤j∧j < id+rs.length then _ else G.ρ j)=_
     rw [if_neg (by omega)]
     exact h8
    ·obtain ⟨b,cur,e,e1,e2,e3,e4⟩:=h10 hn
     have ow:bN G s.hp s.tk b (.inr j):=⟨z,n,c',h5,by rw [h8,e1],hn⟩
     refine ⟨b,cur,e,e1,?_,e3,fun o ho=>?_⟩
     ·rw [keepO _ _ ow fun k hk hh=>by cases hh]
      exact e2
     ·show σ' b o=none
      rw [post.old _ o (m.own_lt ow)]
      exact e4 o ho
  ·rcases hown b k h with h1 | ⟨h1,j,rfl,h2,h3,h5⟩
   ·rcases hown b k' h' with h6 | ⟨h6,_⟩
    ·exact m.own1 b k k' h1 h6
    ·have:=m.own_lt h1
     omega
   ·rcases hown b k' h' with h6 | ⟨h6,j',rfl,h7,h8,h9⟩
    ·have:=m.own_lt h6
     omega
    ·have:=post.own (j - id) (j' - id) b (by omega) (by omega) h5 h9
     congr 1
     omega
  ·rcases hown b k h with h1 | ⟨h1,_⟩
   ·exact m.own2 b k h1
   ·exact .inl (Nat.le_trans m.base h1)
  ·obtain ⟨h1,h2,h3,cur,e,h5,h6⟩:=m.resv b r hr
   have hlt2:=(Array.getElem?_eq_some_iff.1 h5).1
   refine ⟨h1,fun k hk=>?_,fun o ho=>(post.old b o hlt2).trans (h3 o ho),cur,e,?_,h6⟩
   ·rcases hown b k hk with h7 | ⟨h7,_⟩
    ·exact h2 k h7
    ·omega
   ·have hφb:G.φ b=none:=by
     cases hh:G.φ b with
     | none=>rfl
     | some x =>
      have:=(m.frn b x hh).2.2.2.1
      rw [show G.γ b=some r from hr] at this
      cases this
    rw [keepB b hlt2 (fun k hk hh=>?_) (nφ b hφb)]
    ·exact h5
    ·rcases hlt k hk with h7 | h7 | ⟨_,_,_,_,_,_,_,o,_,h7,h8⟩
     ·exact h2 _ (hh ▸ h7)
     ·omega
     ·rw [h7] at hh
      have:=nφ b hφb
      rw [hh,h8] at this
      cases this
  ·rcases hz j _ h with ⟨k,hk,rfl,h3⟩ | ⟨h2,h3⟩
   ·simp only [Prod.mk.injEq,true_and] at h3
    rcases bM (flg s.hp (ids.getD k 0)) (bs'.getD k []) with ⟨f,z1,n1,g1,e1,e2⟩ | ⟨_,_,_,_,_,_,_,e1,e2⟩ | ⟨e1,e1',e2⟩
    ·rw [e2,b7 rfl] at h3
     cases h3
    ·rw [e2] at h3
     cases h3
    ·rw [e2,b7 (bL (bO _))] at h3
     have e4:=aS (bs'.getD k []) 1
     rw [← h3] at e4
     generalize nth (bs'.getD k []) 1 D.dead=d at e4
     cases d <;> simp [nth,D.pure1] at e4
   ·obtain ⟨h5,es,ck,h6,h7⟩:=m.lins j x va n ks vs h3 hx
    have ow:bN G s.hp s.tk (G.β j) (.inl j):=⟨_,h3,.inl ⟨by cases x <;> rfl,rfl⟩⟩
    refine ⟨h5,es,ck,?_,h7⟩
    show w'.heap[G.β j]? = _
    rw [keepO _ _ ow fun k hk hh=>h2 (by cases hh; exact hpos k hk)]
    exact h6
  ·-- objects' blocks
   have hx:orφ φ' G.φ b=some x:=hx
   have hres:∀ k0,bN G' (bX s.hp (aY s.hp ids bs')) (cI s.tk (aW (aZ rs) id)) b k0→bN G s.hp s.tk b k0∨(w.heap.size≤b∧φ' b=none):=fun k0 hk0=>by
    rcases hown b k0 hk0 with h | ⟨h,j,rfl,h2,h3,h5⟩
    ·exact .inl h
    ·exact .inr ⟨h,po.res (j - id) b (by omega) (.inl h5)⟩
   rcases fV m po hx with ⟨h1,k,hk,h2,h3⟩ | ⟨h1,h2,h3⟩
   ·obtain ⟨h5,h6⟩:=po.heap b x h1
    have hold:(∃ o,G.φ b=some ⟨x.id,x.q,o⟩)∨w.heap.size≤b:=by
     rcases po.fresh b x h1 with ⟨o,h7⟩ | h7
     ·exact .inl ⟨o,(b6.1 h7).1⟩
     ·exact .inr h7
    refine ⟨?_,fun k0 hk0=>?_,h6,?_,h5⟩
    ·rcases hold with ⟨o,h7⟩ | h7
     ·exact (m.frn b _ h7).1
     ·exact .inl (Nat.le_trans m.base h7)
    ·rcases hres k0 hk0 with h8 | ⟨_,h8⟩
     ·rcases hold with ⟨o,h7⟩ | h7
      ·exact (m.frn b _ h7).2.1 k0 h8
      ·have:=m.own_lt h8
       omega
     ·rw [h1] at h8
      cases h8
    ·rcases hold with ⟨o,h7⟩ | h7
     ·exact (m.frn b _ h7).2.2.2.1
     ·show G.γ b=none
      cases hg:G.γ b with
      | none=>rfl
      | some r2 =>
       obtain ⟨_,_,_,_,_,h8,_⟩:=m.resv b r2 hg
       have:=(Array.getElem?_eq_some_iff.1 h8).1
       omega
   ·obtain ⟨g1,g2,g3,g4,g5⟩:=m.frn b x h2
    have hlt2:=hφlt b x h2
    have hcn:eW G s.hp ids b=none:=by
     cases hh:eW G s.hp ids b with
     | none=>rfl
     | some y =>
      obtain ⟨e1,e2⟩:=b6.1 hh
      rw [h2] at e1
      cases e1
      exact absurd e2 h3
    refine ⟨g1,fun k0 hk0=>?_,fun o=>(post.old b o hlt2).trans (g3 o),g4,?_⟩
    ·rcases hres k0 hk0 with h8 | ⟨h8,_⟩
     ·exact g2 k0 h8
     ·omega
    ·rw [keepB b hlt2 (fun k hk hh=>?_) hcn]
     ·exact g5
     ·rcases hlt k hk with h7 | h7 | ⟨_,_,_,_,_,_,_,o,_,h7,h8⟩
      ·exact g2 _ (hh ▸ h7)
      ·omega
      ·rw [h7] at hh
       rw [hh,h8] at hcn
       cases hcn
  ·obtain ⟨o,h1⟩:=m.omono b x hx
   exact iV m po b ⟨x.id,x.q,o⟩ h1
  ·-- the objects
   have hsrc:∀ j cs,bX s.hp (aY s.hp ids bs') j=some (false,cs)→bS cs=true∨eC cs=true→∃ cs0,s.hp j=some (false,cs0)∧(bS cs0=true∨eC cs0=true):=fun j cs h ho=>by
    rcases hz j _ h with ⟨k,hk,rfl,h3⟩ | ⟨_,h3⟩
    ·simp only [Prod.mk.injEq,true_and] at h3
     subst h3
     rcases bM (flg s.hp (ids.getD k 0)) (bs'.getD k []) with ⟨f,z,n,g,e1,e2⟩ | ⟨_,_,_,_,_,_,_,e1,e2⟩ | ⟨e1,e1',e2⟩
     ·rw [e2,b7 rfl] at ho
      rcases ho with ho | ho <;> cases ho
     ·obtain ⟨_,_,_,_,_,h5⟩:=hobj k _ _ _ _ _ _ _ hk e1
      exact ⟨_,h5,.inl rfl⟩
     ·rw [e2,b7 (bL (bO _))] at ho
      rw [bL (bO _),hU (bO _)] at ho
      rcases ho with ho | ho <;> cases ho
    ·exact ⟨cs,h3,ho⟩
   have hnp2:∀ j cs,s.hp j=some (false,cs)→(bS cs=true∨eC cs=true)→j ∉ ids∨eC cs=true→¬∃ k,k < ids.length∧aHO (s.hp (ids.getD k 0))=true∧G.β (ids.getD k 0)=G.β j:=fun j cs hj ho hn ⟨k,hk,h1,h2⟩=>by
    cases hh:s.hp (ids.getD k 0) with
    | none=>rw [hh] at h1; cases h1
    | some e =>
     obtain ⟨f,cs2⟩:=e
     rw [hh] at h1
     have h1:bS cs2=true:=h1
     obtain ⟨cs3,h5,_⟩:=hbs k hk
     rw [hh] at h5
     cases h5
     have h6:=m.obs.inj _ _ _ _ hh hj (.inl h1) ho h2
     rcases hn with hn | hn
     ·exact hn (h6 ▸ hpos k hk)
     ·rw [h6,hj] at hh
      cases hh
      obtain ⟨_,_,_,_,_,_,rfl⟩:=fF hn
      cases h1
   refine ⟨fun b b' x x' e1 e2 e3 e4=>?_,fun b x e=>?_,fun j j' cs cs' e1 e2 o1 o2 e3=>?_,fun j m1 c va nl n ks vs h=>?_,fun j i2 j2 b c k0 q h=>?_⟩
   ·rcases fV m po e1 with ⟨h1,h2⟩ | ⟨_,h1,h2⟩
    ·rcases fV m po e2 with ⟨h3,_⟩ | ⟨_,_,h3⟩
     ·exact po.uniq b b' x x' h1 h3 e3 e4
     ·rw [e3] at h2
      exact absurd h2 h3
    ·rcases fV m po e2 with ⟨_,h3⟩ | ⟨_,h3,_⟩
     ·rw [← e3] at h3
      exact absurd h3 h2
     ·exact m.obs.uniq b b' x x' h1 h3 e3 e4
   ·rcases fV m po e with ⟨h1,_⟩ | ⟨_,h1,_⟩
    ·obtain ⟨o,h2⟩:=po.hdr b x h1
     obtain ⟨o',h3⟩:=po.mono _ _ h2
     exact ⟨o',i3 h3⟩
    ·obtain ⟨o,h2⟩:=m.obs.hdr b x h1
     exact iV m po _ _ h2
   ·obtain ⟨c1,h1,h2⟩:=hsrc j cs e1 o1
    obtain ⟨c2,h3,h5⟩:=hsrc j' cs' e2 o2
    exact m.obs.inj j j' c1 c2 h1 h3 h2 h5 e3
   ·show ObjAt G' (G.β j) m1 va nl n ks vs
    rcases hz j _ h with ⟨k,hk,rfl,h3⟩ | ⟨hj,h3⟩
    ·simp only [Prod.mk.injEq,true_and] at h3
     rcases bM (flg s.hp (ids.getD k 0)) (bs'.getD k []) with ⟨f,z,n2,g,e1,e2⟩ | ⟨m2,c2,va2,nl2,n2,ks2,vs2,e1,e2⟩ | ⟨e1,e1',e2⟩
     ·rw [e2,b7 rfl] at h3
      cases h3
     ·rw [e2] at h3
      cases h3
      obtain ⟨c0,nl0,n0,ks0,vs0,h5⟩:=hobj k _ _ _ _ _ _ _ hk e1
      have hxk:(dH G s.hp w.heap.size ids).getD k 0=G.β (ids.getD k 0):=by
       rw [hext k hk,fT h5 rfl]
      obtain ⟨_,_,g0,_⟩:=m.obs.objs _ _ _ _ _ _ _ _ h5
      have hc0:eW G s.hp ids (G.β (ids.getD k 0))=some ⟨G.β (ids.getD k 0),0,_⟩:=b6.2 ⟨g0,k,hk,by rw [h5]; rfl,rfl⟩
      obtain ⟨cs,ty,g1,g2,g3⟩:=po.objs k m1 c2 va nl n ks vs (by omega) (by omega) e1 ⟨_,by rw [hxk]; exact hc0⟩
      rw [hxk] at g1 g3
      refine ⟨cs,ty,i3 g1,g2,fun q hq=>?_⟩
      rcases g3 q hq with ⟨g4,g5,g6⟩ | ⟨g4,blk,es,ck,g5,g6,g7,g8⟩
      ·refine .inl ⟨g4,g5,fun k2 y hy hyi=>?_⟩
       rcases fV m po hy with ⟨h8,_⟩ | ⟨_,_,h8⟩
       ·exact g6 k2 y h8 hyi
       ·exact absurd ⟨k,hk,by rw [h5]; rfl,hyi.symm⟩ h8
      ·exact .inr ⟨g4,blk,es,ck,g5,i3 g6,g7,g8⟩
     ·rw [e2,b7 (bL (bO _))] at h3
      have e4:=bO (bs'.getD k [])
      rw [← h3] at e4
      cases e4
    ·have hn:=hnp2 j _ h3 (.inl rfl) (.inl hj)
     obtain ⟨cs,ty,g1,g2,g3⟩:=m.obs.objs _ _ _ _ _ _ _ _ h3
     refine ⟨cs,ty,(oK m po g1 hn).1,g2,fun q hq=>?_⟩
     rcases g3 q hq with ⟨g4,g5,g6⟩ | ⟨g4,blk,es,ck,g5,g6,g7,g8⟩
     ·refine .inl ⟨g4,g5,fun k2 y hy hyi=>?_⟩
      rcases fV m po hy with ⟨_,h8⟩ | ⟨_,h8,_⟩
      ·rw [hyi] at h8
       exact absurd h8 hn
      ·exact g6 k2 y h8 hyi
     ·exact .inr ⟨g4,blk,es,ck,g5,(oK m po g6 hn).1,g7.mono post.le,g8⟩
   ·show aJO G' _ j i2 j2 b c k0 q
    rcases hz j _ h with ⟨k,hk,rfl,h3⟩ | ⟨hj,h3⟩
    ·exfalso
     simp only [Prod.mk.injEq,true_and] at h3
     rcases bM (flg s.hp (ids.getD k 0)) (bs'.getD k []) with ⟨f,z,n2,g,e1,e2⟩ | ⟨m2,c2,va2,nl2,n2,ks2,vs2,e1,e2⟩ | ⟨e1,e1',e2⟩
     ·rw [e2,b7 rfl] at h3
      cases h3
     ·rw [e2] at h3
      cases h3
     ·rw [e2,b7 (bL (bO _))] at h3
      have e4:=bO (bs'.getD k [])
      rw [← h3] at e4
      cases e4
    ·have hn:=hnp2 j _ h3 (.inr rfl) (.inr rfl)
     obtain ⟨g1,ob,g2,g3⟩:=m.obs.mits _ _ _ _ _ _ _ h3
     -- the object that is walked over
     have hi2:∀ e,bX s.hp (aY s.hp ids bs') i2=some e→(∃ m1 c' va nl n ks vs,e=(false,[.dead,.obj m1 c' va nl n ks vs])∧c≤c')∧(s.hp i2=some e∧i2 ∉ ids∨∀ m1 va nl n ks vs,e≠(false,[.dead,.obj m1 c va nl n ks vs])):=fun e he=>by
      rcases hz i2 _ he with ⟨k,hk,rfl,h5⟩ | ⟨h5,h6⟩
      ·obtain ⟨cs3,h6,_⟩:=hbs k hk
       obtain ⟨m1,c1,va1,nl1,n1,ks1,vs1,h7,h8⟩:=g1 _ h6
       cases h7
       have hob:bS (bs'.getD k [])=true:=by
        obtain ⟨_,_,h9⟩:=hbk k (by omega)
        obtain ⟨cs4,h10,h11,_⟩:=hbs k hk
        rw [h6] at h10
        cases h10
        rw [← vL h9,h11]
        rfl
       obtain ⟨m2,c2,va2,nl2,n2,ks2,vs2,h9⟩:=cJ hob
       have hc:ctr s.hp (ids.getD k 0)=c1+1:=by unfold ctr; rw [h6]
       rw [h9,hc] at h5
       subst h5
       refine ⟨⟨m2,c1+1,va2,nl2,n2,ks2,vs2,rfl,by omega⟩,.inr fun m1 va nl n ks vs hh=>?_⟩
       simp only [eU,rD,Prod.mk.injEq,List.cons.injEq,D.obj.injEq,true_and,and_true] at hh
       omega
      ·exact ⟨g1 e h6,.inl ⟨h6,h5⟩⟩
     refine ⟨fun e he=>(hi2 e he).1,ob,(oK m po g2 hn).1,?_⟩
     rcases g3 with g3 | ⟨g3,blk,ob',since,seen,g4,g5,g6⟩
     ·exact .inl g3
     ·refine .inr ⟨g3,?_⟩
      cases hh:bX s.hp (aY s.hp ids bs') i2 with
      | none =>
       obtain ⟨o,h5⟩:=iV m po _ _ g5
       exact ⟨blk,o,since,seen,g4,h5,fun m1 va nl n ks vs e=>by cases e⟩
      | some e =>
       obtain ⟨⟨m1,c',va,nl,n,ks,vs,rfl,hcc⟩,h5 | h5⟩:=hi2 e hh
       ·have hn2:=hnp2 i2 _ h5.1 (.inl rfl) (.inl h5.2)
        exact ⟨blk,ob',since,seen,g4,(oK m po g5 hn2).1,fun m1 va nl n ks vs e=>g6 m1 va nl n ks vs (by rw [h5.1]; exact e)⟩
       ·obtain ⟨o,h6⟩:=iV m po _ _ g5
        exact ⟨blk,o,since,seen,g4,h6,fun m1 va nl n ks vs e=>by cases e; exact absurd rfl (h5 _ _ _ _ _ _)⟩
  ·rcases hz j _ h with ⟨k,hk,rfl,h3⟩ | ⟨h2,h3⟩
   ·exfalso
    simp only [Prod.mk.injEq,true_and] at h3
    rcases bM (flg s.hp (ids.getD k 0)) (bs'.getD k []) with ⟨f,z1,n1,g1,e1,e2⟩ | ⟨_,_,_,_,_,_,_,e1,e2⟩ | ⟨e1,e1',e2⟩
    ·rw [e2,b7 rfl] at h3
     cases h3
    ·rw [e2] at h3
     cases h3
    ·rw [e2,b7 (bL (bO _))] at h3
     have e4:=aS (bs'.getD k []) 1
     rw [← h3] at e4
     generalize nth (bs'.getD k []) 1 D.dead=d at e4
     cases d <;> simp [nth,D.pure1] at e4
   ·exact m.mnp j x va n ks vs h3
 have tokSome:∀ j q z n g,j < rs.length→nth rs j .dead=.slice (.own q) z n g→cI s.tk (aW (aZ rs) id) (id+j)=some (z,n)∧G'.ρ (id+j)=vs.getD j undef:=by
  intro j q z n g hj hr
  refine ⟨?_,?_⟩
  ·rw [fW]
   have:j6 (aZ rs) id (id+j)=some (z,n):=by
    unfold j6
    rw [show id+j - id=j from by omega,gY,hr]
    simp only [D.res,cU]
    rw [if_pos (by omega)]
   rw [this]
  ·show (if id≤id+j∧id+j < id+rs.length then _ else _)=_
   rw [if_pos (by omega),show id+j - id=j from by omega]
 have rts:∀ j,j < rs.length→Rt F G' (cI s.tk (aW (aZ rs) id)) (vs.getD j undef) (nth (cN (aZ rs) id) j .dead):=by
  intro j hj
  rw [oO,gY]
  exact aMI (post.res j hj) rfl fun q z n g hr=>tokSome j q z n g hj hr
 refine ⟨G',rfl,rfl,rfl,keeps,mem,fun b k hk=>?_,rts⟩
 rcases hown b k hk with h | ⟨_,j,_,h1,h2,q,z,n,g,c,h3,_⟩
 ·exact .inl (m.own_lt h)
 ·exact .inr ⟨j - id,q,z,n,g,by omega,h3⟩
theorem hZ {lo hi:Nat} (k:Nat) (f:Bool) (cs:List D):names lo hi (rD k (eU f cs))=false:=by
 rcases bM f cs with ⟨_,z,n,g,rfl,e⟩ | ⟨_,_,_,_,_,_,_,rfl,e⟩ | ⟨_,h,e⟩
 ·rfl
 ·rfl
 ·rw [e,b7 (bL (bO _))]
  exact dK _
theorem aE8 (r:Rel F B np w0 ext σ0 G s a w) {id:Nat} (hnp:np≤id) (hcl:Clean id (id+4) s) {ids:List Nat} {bs bs':List (List D)} (hb:cQ s.hp ids=some bs) (hd:dO ids=true) {σ':Sg} {rs:List D} {vs:Array Value}
  (post:CPost (fH G s.hp ids) w (dH G s.hp w.heap.size ids) w' σ' rs bs' vs) (hback:nD bs bs'=true) (h4:rs.length≤4) (dst:Option Nat) :
  ∃ G',Rel F B np w0 ext σ0 G' (s.next dst (mE (cN (aZ rs) id)) ⟨aY s.hp ids bs',aW (aZ rs) id⟩) (a.put dst (fB vs)) w':=by
 obtain ⟨φ',po⟩:=post.objs
 obtain ⟨G',_,_,_,keeps,mem,_,rts⟩:=uQ r hnp hcl hb hd post po hback h4
 refine ⟨G',r.put hnp hcl keeps mem ?_ dst⟩
 have hsz:=post.size
 match rs,hsz,rts with
 | [d],hsz,rts =>
  have h1:=rts 0 (by simp)
  have e:cN (aZ [d]) id=[nth (cN (aZ [d]) id) 0 .dead]:=by
   cases hq:cN (aZ [d]) id with
   | nil=>have:=eP (aZ [d]) id; rw [hq] at this; simp [cU] at this
   | cons x l =>
    have:=eP (aZ [d]) id
    rw [hq] at this
    simp [cU] at this
    subst this
    rfl
  rw [e]
  have e2:fB vs=vs.getD 0 undef:=by
   have:vs.size=1:=hsz
   simp [fB,this,Array.getD_eq_getD_getElem?]
  rw [e2]
  exact .any h1.ra
 | [],hsz,rts =>
  have e2:fB vs=.tuple vs:=by
   have:vs.size=0:=hsz
   simp [fB,this]
  rw [e2]
  exact .tup vs [] hsz fun j hj=>by simp at hj
 | d::d'::l,hsz,rts =>
  have e2:fB vs=.tuple vs:=by
   have:¬vs.size=1:=by rw [hsz]; simp
   simp [fB,this]
  have e1:mE (cN (aZ (d::d'::l)) id)=.tup (cN (aZ (d::d'::l)) id):=by
   have:=eP (aZ (d::d'::l)) id
   generalize cN (aZ (d::d'::l)) id=x at this
   match x,this with
   | a::b::c,_=>rfl
  rw [e1,e2]
  exact .tup vs _ (by rw [eP,cU]; exact hsz) fun j hj=>rts j (by rw [eP,cU] at hj; exact hj)
theorem aCO (hp:Nat→Option (Bool×List D)) (l m:List (Nat×Bool×List D)):bX hp (l++m)=bX (bX hp l) m:=by
 induction l generalizing hp with
 | nil=>rfl
 | cons x l ih=>obtain ⟨i,e⟩:=x; simp only [List.cons_append,bX,ih]
theorem aLY (m:Mem F B np w0 ext σ0 G hp tk w) {φ':Nat→Option Fo} (hγ:G'.γ=G.γ) (hφ:G'.φ=orφ φ' G.φ) {b:Nat} (hB:w.heap.size≤b) (h:φ' b=none):G'.γ b=none∧G'.φ b=none:=by
 refine ⟨?_,?_⟩
 ·rw [hγ]
  cases hg:G.γ b with
  | none=>rfl
  | some r2 =>
   obtain ⟨_,_,_,_,_,h5,_⟩:=m.resv b r2 hg
   have:=(Array.getElem?_eq_some_iff.1 h5).1
   omega
 ·rw [hφ,oF h]
  cases hg:G.φ b with
  | none=>rfl
  | some x =>
   obtain ⟨_,_,_,_,h5⟩:=m.frn b x hg
   have:=(Array.getElem?_eq_some_iff.1 h5).1
   omega
theorem uC (r:Rel F B np w0 ext σ0 G s a w) {id:Nat} (hnp:np≤id) (hcl:Clean id (id+4) s) {ids:List Nat} {bs bs':List (List D)} (hb:cQ s.hp ids=some bs) (hd:dO ids=true) {σ':Sg} {l:List D} {vs:Array Value}
  (post:CPost (fH G s.hp ids) w (dH G s.hp w.heap.size ids) w' σ' [.newp l] bs' vs) (hback:nD bs bs'=true) (hl:aH (aK l)=true) (dst:Option Nat) :
  ∃ G',Rel F B np w0 ext σ0 G' (s.next dst (.ptr id 0) ⟨aY s.hp ids bs'++[(id,false,aK l)],[]⟩) (a.put dst (fB vs)) w':=by
 have hres:=post.res 0 (by simp)
 simp only [nth] at hres
 obtain ⟨b,c,e,hv,hB,hc,hcs,hrp,hσ⟩:=hres
 obtain ⟨φ',po⟩:=post.objs
 have po':uL (fH G s.hp ids) w.heap.size (dH G s.hp w.heap.size ids) w' σ' [.dead] bs' vs φ' :=
  { po with
   res:=fun j b hj hr=>by
    have:j=0:=by simpa using hj
    subst this
    rcases hr with ⟨_,_,_,_,_,h,_⟩ | ⟨_,h,_⟩ | ⟨_,_,_,_,_,h,_⟩ <;> cases h }
 have post':CPost (fH G s.hp ids) w (dH G s.hp w.heap.size ids) w' σ' [.dead] bs' vs :=
  { post with
   size:=post.size
   res:=fun j hj=>by
    have:j=0:=by simpa using hj
    subst this
    exact .dead _
   own:=fun i j b hi hj _ _=>by simp at hi hj; omega
   objs:=⟨φ',po'⟩ }
 obtain ⟨G',hσ',hγ',hφ',keeps,mem,hown,_⟩:=uQ r hnp hcl hb hd post' po' hback (by simp)
 have hlow:∀ k,¬bN G' (bX s.hp (aY s.hp ids bs')) (cI s.tk (aW (aZ [.dead]) id)) b k:=fun k hk=>by
  rcases hown b k hk with h | ⟨j,q,z,n,g,h1,h2⟩
  ·omega
  ·have:j=0:=by simpa using h1
   subst this
   cases h2
 have hclean:∀ id' f cs',bX s.hp (aY s.hp ids bs') id'=some (f,cs')→id'≠id∧names id (id+1) cs'=false:=by
  intro id' f cs' h
  obtain ⟨hl',hbs⟩:=dV hb
  rcases t8 ids bs' s.hp s.hp hd (by have:=(oD hback).1; omega) id' _ h with ⟨k,hk,rfl,h3⟩ | ⟨_,h3⟩
  ·obtain ⟨cs0,h5,_⟩:=hbs k hk
   have:=(hcl.hp _ _ _ h5).1
   refine ⟨by omega,?_⟩
   cases h3
   exact hZ _ _ _
  ·have:=hcl.hp _ _ _ h3
   exact ⟨by omega,dC this.2 (Nat.le_refl _) (by omega)⟩
 have m2:=mem.addVar id b (aK l) c e hc hl (by rw [aM]; exact hcs) (fun j hj=>by
   rw [aM] at hj
   rw [aS]
   exact .pure (by rw [hσ']; exact hrp j hj) (cC _ _)) (fun o=>by rw [hσ']; exact hσ o) hlow (.inl (Nat.le_trans r.mem.base hB))
  (by
   cases hh:bX s.hp (aY s.hp ids bs') id with
   | none=>rfl
   | some x=>exact absurd rfl (hclean id x.1 x.2 hh).1)
  (fun id' f cs' h=>(hclean id' f cs' h).2) (aLY r.mem hγ' hφ' hB (po.res 0 b (by simp) (.inr (.inl ⟨l,rfl,hv⟩))))
 refine ⟨{ G' with β:=fun j=>if j=id then b else G'.β j },?_⟩
 have kk:Keeps id (id+4) G { G' with β:=fun j=>if j=id then b else G'.β j } s.tk s.tk :=
  ⟨keeps.σ,fun j hj=>by simp only; rw [if_neg (by omega)]; exact keeps.β j hj,fun i z m hi h=>keeps.tok i z m hi h,fun i n v hi h=>keeps.row i n v hi h,keeps.obj⟩
 have hput:=r.put (d:=.ptr id 0) (v:=fB vs) hnp hcl kk m2 (by
  have e2:fB vs=vs.getD 0 undef:=by
   have:vs.size=1:=post.size
   simp [fB,this,Array.getD_eq_getD_getElem?]
  rw [e2,hv]
  have:=Rc.ptr (F:=F) (G:={ G' with β:=fun j=>if j=id then b else G'.β j }) (tk:=s.tk) id 0
  simp only [if_true] at this
  exact .any (.cell this)) dst
 unfold St.next
 rw [aCO]
 exact hput
theorem uE (r:Rel F B np w0 ext σ0 G s a w) {id:Nat} (hnp:np≤id) (hcl:Clean id (id+4) s) {ids:List Nat} {bs bs':List (List D)} (hb:cQ s.hp ids=some bs) (hd:dO ids=true) {σ':Sg} {w0r:Bool} {z n:Nat} {g:Nat→List D} {vs:Array Value}
  (post:CPost (fH G s.hp ids) w (dH G s.hp w.heap.size ids) w' σ' [.arr w0r z n g] bs' vs) (hback:nD bs bs'=true) (dst:Option Nat) :
  ∃ G',Rel F B np w0 ext σ0 G' (s.next dst (.msl id z n) ⟨aY s.hp ids bs'++[(id,false,[.dead,.arr true z n g])],[]⟩) (a.put dst (fB vs)) w':=by
 have hres:=post.res 0 (by simp)
 simp only [nth] at hres
 obtain ⟨ad,c,hv,hnc,hblk⟩:=hres
 obtain ⟨φ',po⟩:=post.objs
 have po':uL (fH G s.hp ids) w.heap.size (dH G s.hp w.heap.size ids) w' σ' [.dead] bs' vs φ' :=
  { po with
   res:=fun j b hj hr=>by
    have:j=0:=by simpa using hj
    subst this
    rcases hr with ⟨_,_,_,_,_,h,_⟩ | ⟨_,h,_⟩ | ⟨_,_,_,_,_,h,_⟩ <;> cases h }
 have post':CPost (fH G s.hp ids) w (dH G s.hp w.heap.size ids) w' σ' [.dead] bs' vs :=
  { post with
   size:=post.size
   res:=fun j hj=>by
    have:j=0:=by simpa using hj
    subst this
    exact .dead _
   own:=fun i j b hi hj _ _=>by simp at hi hj; omega
   objs:=⟨φ',po'⟩ }
 obtain ⟨G',hσ',hγ',hφ',keeps,mem,hown,_⟩:=uQ r hnp hcl hb hd post' po' hback (by simp)
 have hlow:∀ b,w.heap.size≤b→∀ k,¬bN G' (bX s.hp (aY s.hp ids bs')) (cI s.tk (aW (aZ [.dead]) id)) b k:=fun b hB k hk=>by
  rcases hown b k hk with h | ⟨j,q,z,n,g,h1,h2⟩
  ·omega
  ·have:j=0:=by simpa using h1
   subst this
   cases h2
 have hclean:∀ id' f cs',bX s.hp (aY s.hp ids bs') id'=some (f,cs')→id'≠id∧names id (id+1) cs'=false:=by
  intro id' f cs' h
  obtain ⟨hl',hbs⟩:=dV hb
  rcases t8 ids bs' s.hp s.hp hd (by have:=(oD hback).1; omega) id' _ h with ⟨k,hk,rfl,h3⟩ | ⟨_,h3⟩
  ·obtain ⟨cs0,h5,_⟩:=hbs k hk
   have:=(hcl.hp _ _ _ h5).1
   refine ⟨by omega,?_⟩
   cases h3
   exact hZ _ _ _
  ·have:=hcl.hp _ _ _ h3
   exact ⟨by omega,dC this.2 (Nat.le_refl _) (by omega)⟩
 have m2:=mem.addRow (id:=id) (z:=z) (n:=n) (c:=c) (ad:=ad) (g:=g) hnc hnp (by
   cases hh:bX s.hp (aY s.hp ids bs') id with
   | none=>rfl
   | some x=>exact absurd rfl (hclean id x.1 x.2 hh).1) (fun hc=>by
   obtain ⟨b,h1,h2,h3,o,h4,cur,e,rfl,h5,h6⟩:=hblk hc
   refine ⟨b,cur,e,h1,h4,h5,fun o=>by rw [hσ']; exact h3 o,hlow b h2,Nat.le_trans r.mem.base h2,?_,fun i hi=>⟨(h6 i hi).1,fun j hj=>⟨((h6 i hi).2 j hj).1,by rw [hσ']; exact ((h6 i hi).2 j hj).2⟩⟩⟩
   exact aLY r.mem hγ' hφ' h2 (po.res 0 b (by simp) (.inr (.inr ⟨w0r,z,n,g,c,rfl,by rw [hv,h1],hc⟩))))
  (fun id' f cs' h=>(hclean id' f cs' h).2)
 have kk:Keeps id (id+4) G { G' with η:=fun i k=>if i=id then (if k=n then some (.slice ad n c) else none) else G'.η i k } s.tk s.tk :=
  ⟨keeps.σ,fun j hj=>keeps.β j hj,fun i z m hi h=>keeps.tok i z m hi h,fun i k v hi h=>by
   simp only
   rw [if_neg (by omega)]
   exact keeps.row i k v hi h,keeps.obj⟩
 refine ⟨{ G' with η:=fun i k=>if i=id then (if k=n then some (.slice ad n c) else none) else G'.η i k },?_⟩
 have hput:=r.put (d:=.msl id z n) (v:=fB vs) hnp hcl kk m2 (by
  have e2:fB vs=vs.getD 0 undef:=by
   have:vs.size=1:=post.size
   simp [fB,this,Array.getD_eq_getD_getElem?]
  rw [e2,hv]
  refine .msl id z n ad c (by simp) hnc (fun hn=>?_)
  obtain ⟨b,h1,_⟩:=hblk (by omega)
  exact ⟨b,h1⟩) dst
 unfold St.next
 rw [aCO]
 exact hput
end
section
variable {P:Program} {F:Nat→FuncId} {B np:Nat} {w0 w w':World} {ext:List Nat} {σ0:Og} {G G':Gh} {s:St} {a:Act} {ft:FT} {hp:Nat→Option (Bool×List D)} {tk:Nat→Option (Nat×Nat)} {lo hi:Nat} {E:Env}
theorem nE:∀ {l:List D},aH (aK l)=true→aH l=true
 | [],_=>rfl
 | d::l,h=>by
  cases d <;> first | (simp only [aK,D.pure1,aH] at h; exact nE (l:=l) h) | (simp [aK,D.pure1,aH] at h; done)
theorem jZ:∀ (l:List D) (j:Nat),(mW l j).length=l.length
 | [],_=>rfl
 | d::l,j=>by cases d <;> simp [mW,jZ l]
theorem Rc.pured {v:Value} {d:D} (h:Rc F G tk v d) {G1:Gh} (e:G1.σ=G.σ) (hp:∀ i o,d≠.ptr i o):Rc F G1 (fun _=>none) v d.pure:=by
 cases h with
 | pure h1 h2 =>
  have h3:Rp G1.σ v d.pure1:=e ▸ h1.pure1
  have:d.pure=d.pure1:=by cases h1 <;> rfl
  rw [this]
  exact .pure h3 (cC _ _)
 | ptr i o=>exact absurd rfl (hp i o)
 | eptr b o l h1=>exact .eptr b o l (e ▸ h1)
 | fn f cap l h1 h2=>exact .fn f cap l h1 fun j hj=>e ▸ h2 j hj
 | mp _ _ _ _ _ _ _ _ _ _=>exact .pure (.dead _) trivial
theorem Rd.pured {v:Value} {d:D} (h:Rd F G tk v d) {G1:Gh} (e:G1.σ=G.σ) (hp:∀ i o,d≠.ptr i o):Rd F G1 (fun _=>none) v d.pure:=by
 cases h with
 | any h =>
  cases h with
  | cell h=>exact .any (.cell (h.pured e hp))
  | agg cs l h1 h2 =>
   refine .any (.agg cs (aK l) (by rw [aM]; exact h1) fun j hj=>?_)
   rw [aM] at hj
   rw [aS]
   exact .pure (e ▸ (h2 j hj).pure1) (cC _ _)
 | tup vs l h1 h2=>exact Rd.dead _
 | mref id=>exact Rd.dead _
 | msl _ _ _ _ _ _ _ _=>exact Rd.dead _
 | rptr _ _ _ _ _ _ _ _=>exact Rd.dead _
 | oref _ _ _ _ _=>exact Rd.dead _
 | oagg _ _ _ _ _ _ _=>exact Rd.dead _
 | osl _ _ _ _ _ _ _=>exact Rd.dead _
theorem nY:∀ (l:List D) (bs:List (List D)) (k:Prop),o6 l bs k↔o6 l bs True∧k
 | [],_,k=>by simp [o6]
 | d::l,bs,k=>by
  have ih:=fun bs=>nY l bs k
  cases d with
  | ptr i o =>
   simp only [o6]
   cases cZ (bs.headD []) with
   | true=>simp [Br]
   | false=>exact ih _
  | msl i z n =>
   simp only [o6]
   cases xM (bs.headD []) with
   | none=>simp
   | some m =>
    simp only
    rw [ih bs.tail]
    constructor
    ·rintro ⟨h1,h2,h3⟩; exact ⟨⟨h1,h2⟩,h3⟩
    ·rintro ⟨⟨h1,h2⟩,h3⟩; exact ⟨h1,h2,h3⟩
  | _=>exact ih _
theorem aE7 {b:List D} {m:Nat} (h:xM b=some m):∃ w z g,b=[.dead,.arr w z m g]:=by
 unfold xM at h
 split at h
 ·cases h
  exact ⟨_,_,_,rfl⟩
 ·cases h
theorem t4 {ids:List Nat} {hs:Nat}:∀ (l:List D) (vals:List Value) (bs:List (List D)) (p:Nat),(∀ i,i < l.length→Rd F G tk (vals.getD i undef) (nth l i .dead))→o6 l bs True →
  (∀ k,k < (ptrs l).length→p+k < ids.length∧ids.getD (p+k) 0=(ptrs l).getD k 0∧∃ cs,hp ((ptrs l).getD k 0)=some (false,cs)∧bs.getD k []=eU false cs)→(ptrs l).length=bs.length→∀ i,i < l.length →
  Rd F (G0 (fH G hp ids) (dH G hp hs ids)) (fun _=>none) (vals.getD i undef) (nth (mW l p) i .dead)
 | [],_,_,_,_,_,_,_,i,hi=>by simp at hi
 | d::l,vals,bs,p,h,hlen,hids,hbl,i,hi=>by
  have h0:=h 0 (by simp)
  simp only [nth] at h0
  obtain ⟨v0,vr,hv⟩:∃ (v0:Value) (vr:List Value),∀ i,vals.getD i undef=(v0::vr).getD i undef:=by
   cases vals with
   | nil=>exact ⟨undef,[],fun i=>by cases i <;> simp⟩
   | cons x y=>exact ⟨x,y,fun _=>rfl⟩
  simp only [hv] at h h0 ⊢
  simp only [List.getD_cons_zero] at h0
  have h':∀ i,i < l.length→Rd F G tk (vr.getD i undef) (nth l i .dead):=fun i hi=>by
   have:=h (i+1) (by simpa using hi)
   simpa [nth] using this
  by_cases hp1:∃ id off,d=.ptr id off
  ·obtain ⟨id,off,rfl⟩:=hp1
   simp only [mW,ptrs] at hids hbl ⊢
   cases bs with
   | nil=>simp at hbl
   | cons b bs =>
    have hk0:=hids 0 (by simp)
    obtain ⟨e1,e2,cs,e3,e4⟩:=hk0
    simp only [Nat.add_zero,List.getD_cons_zero] at e1 e2 e3 e4
    simp only [o6,List.headD_cons,List.tail_cons] at hlen
    have hb:cZ b=false:=by
     cases hb:cZ b with
     | false=>rfl
     | true=>rw [hb] at hlen; exact hlen.elim
    rw [hb] at hlen
    have ha:cZ cs=false:=by
     rcases bM false cs with ⟨_,_,_,_,rfl,h8⟩ | ⟨_,_,_,_,_,_,_,rfl,_⟩ | ⟨h7,_,h8⟩
     ·rw [e4,h8] at hb
      cases hb
     ·rfl
     ·exact h7
    cases i with
    | zero =>
     have:=h0.ptr_inv
     subst this
     simp only [nth,List.getD_cons_zero]
     have:(Value.pointer (some ⟨G.β id,off,none⟩))=.pointer (some ⟨(G0 (fH G hp ids) (dH G hp hs ids)).β p,off,none⟩):=by
      simp only [G0]
      rw [lQ e1,e2,fT e3 ha]
     rw [this]
     exact .any (.cell (.ptr _ _))
    | succ i =>
     have:=t4 (hs:=hs) l vr bs (p+1) h' hlen (fun k hk=>by
      have:=hids (k+1) (by simpa using hk)
      rw [show p+1+k=p+(k+1) from by omega]
      simpa using this) (by simpa using hbl) i (by simpa using hi)
     simpa [nth] using this
  ·by_cases hp2:∃ id z n,d=.msl id z n
   ·obtain ⟨id,z,n,rfl⟩:=hp2
    simp only [mW,ptrs] at hids hbl ⊢
    cases bs with
    | nil=>simp at hbl
    | cons b bs =>
     have hk0:=hids 0 (by simp)
     obtain ⟨e1,e2,cs,e3,e4⟩:=hk0
     simp only [Nat.add_zero,List.getD_cons_zero] at e1 e2 e3 e4
     simp only [o6,List.headD_cons,List.tail_cons] at hlen
     cases hm:xM b with
     | none=>rw [hm] at hlen; exact hlen.elim
     | some m1 =>
     rw [hm] at hlen
     obtain ⟨w1,z1,g1,hb⟩:=aE7 hm
     subst hb
     obtain ⟨hn,hlen⟩:=hlen
     subst hn
     obtain ⟨fw,g2,rfl⟩:∃ fw g2,cs=[.dead,.arr fw z1 n g2]:=by
      rcases bM false cs with ⟨fw,_,_,g2,rfl,h8⟩ | ⟨_,_,_,_,_,_,_,_,h8⟩ | ⟨_,_,h8⟩
      ·rw [h8] at e4
       cases e4
       exact ⟨fw,_,rfl⟩
      ·rw [h8] at e4
       cases e4
      ·rw [h8] at e4
       have e5:=aS cs 1
       rw [← e4] at e5
       generalize nth cs 1 D.dead=d at e5
       cases d <;> simp [nth,D.pure1] at e5
     cases i with
     | zero =>
      obtain ⟨a,c,rfl,h2,h3,h4⟩:=h0.msl_inv
      simp only [nth,List.getD_cons_zero]
      refine .msl p z n a c ?_ h3 h4
      show wJ G hp ids p n=_
      rw [oW e1 (by rw [e2]; exact e3),if_pos rfl,e2]
      exact h2
     | succ i =>
      have:=t4 (hs:=hs) l vr bs (p+1) h' hlen (fun k hk=>by
       have:=hids (k+1) (by simpa using hk)
       rw [show p+1+k=p+(k+1) from by omega]
       simpa using this) (by simpa using hbl) i (by simpa using hi)
      simpa [nth] using this
   ·have hp':∀ i o,d≠.ptr i o:=fun i o e=>hp1 ⟨i,o,e⟩
    have hp2':∀ i z n,d≠.msl i z n:=fun i z n e=>hp2 ⟨i,z,n,e⟩
    have e1:mW (d::l) p=d.pure::mW l p:=by cases d <;> first | rfl | exact absurd rfl (hp' _ _) | exact absurd rfl (hp2' _ _ _)
    have e2:ptrs (d::l)=ptrs l:=by cases d <;> first | rfl | exact absurd rfl (hp' _ _) | exact absurd rfl (hp2' _ _ _)
    have e3:o6 (d::l) bs True=o6 l bs True:=by cases d <;> first | rfl | exact absurd rfl (hp' _ _) | exact absurd rfl (hp2' _ _ _)
    rw [e1]
    rw [e2] at hids hbl
    rw [e3] at hlen
    cases i with
    | zero =>
     simp only [nth,List.getD_cons_zero]
     exact h0.pured rfl hp'
    | succ i =>
     have:=t4 (hs:=hs) l vr bs p h' hlen hids hbl i (by simpa using hi)
     simpa [nth] using this
theorem aEB (d:D) (hp:∀ i o,d≠.ptr i o):d.pure.names lo hi=false:=by
 cases d with
 | agg l=>exact dK l
 | ptr i o=>exact absurd rfl (hp i o)
 | _=>rfl
theorem mC (h:Nat):∀ (l:List D) (j0 i:Nat),i < l.length→(nth (mW l j0) i .dead).names (j0+(ptrs l).length) h=false
 | [],_,i,hi=>by simp at hi
 | d::l,j0,i,hi=>by
  by_cases hp:∃ id off,d=.ptr id off
  ·obtain ⟨id,off,rfl⟩:=hp
   simp only [mW,ptrs,List.length_cons]
   cases i with
   | zero=>exact aX (by omega)
   | succ i =>
    have:=mC h l (j0+1) i (by simpa using hi)
    rw [show j0+((ptrs l).length+1)=j0+1+(ptrs l).length from by omega]
    exact this
  ·by_cases hp2:∃ id z n,d=.msl id z n
   ·obtain ⟨id,z,n,rfl⟩:=hp2
    simp only [mW,ptrs,List.length_cons]
    cases i with
    | zero=>exact aX (by omega)
    | succ i =>
     have:=mC h l (j0+1) i (by simpa using hi)
     rw [show j0+((ptrs l).length+1)=j0+1+(ptrs l).length from by omega]
     exact this
   ·have hp':∀ i o,d≠.ptr i o:=fun i o e=>hp ⟨i,o,e⟩
    have hp2':∀ i z n,d≠.msl i z n:=fun i z n e=>hp2 ⟨i,z,n,e⟩
    have e1:mW (d::l) j0=d.pure::mW l j0:=by cases d <;> first | rfl | exact absurd rfl (hp' _ _) | exact absurd rfl (hp2' _ _ _)
    have e2:ptrs (d::l)=ptrs l:=by cases d <;> first | rfl | exact absurd rfl (hp' _ _) | exact absurd rfl (hp2' _ _ _)
    rw [e1,e2]
    cases i with
    | zero=>exact aEB d hp'
    | succ i=>exact mC h l j0 i (by simpa using hi)
theorem aD0 (r:Rel F B np w0 ext σ0 G s a w) {vs:List D} {vals:Array Value} (hsz:vals.size=vs.length) (hv:∀ i,i < vs.length→Rd F G s.tk (vals.getD i undef) (nth vs i .dead)) {bs:List (List D)} (hb:cQ s.hp (ptrs vs)=some bs)
  (hd:dO (ptrs vs)=true) (hlen:o6 vs bs True):CPre F (fH G s.hp (ptrs vs)) w (dH G s.hp w.heap.size (ptrs vs)) vals (mW vs 0) bs:=by
 have m:=r.mem
 obtain ⟨hl,hbs⟩:=dV hb
 have hget:∀ k,k < (ptrs vs).length→(dH G s.hp w.heap.size (ptrs vs)).getD k 0=gH G s.hp w.heap.size ((ptrs vs).getD k 0) k:=fun k hk=>lQ hk
 have hnφ:∀ b,G.φ b=none→eW G s.hp (ptrs vs) b=none:=fun b h=>by
  cases hh:eW G s.hp (ptrs vs) b with
  | none=>rfl
  | some x =>
   have:=(b6.1 hh).1
   rw [h] at this
   cases this
 have ownφ:∀ b k0,bN G s.hp s.tk b k0→eW G s.hp (ptrs vs) b=none:=fun b k0 h=>hnφ b (by
  cases hh:G.φ b with
  | none=>rfl
  | some x=>exact absurd h ((m.frn b x hh).2.1 k0))
 have hφlt:∀ b x,eW G s.hp (ptrs vs) b=some x→b < w.heap.size:=fun b x hx=>(Array.getElem?_eq_some_iff.1 (m.frn b x (b6.1 hx).1).2.2.2.2).1
 refine ⟨m.stab,by rw [jZ]; exact hsz,fun j hj=>?_,fun j hj h=>?_,by rw [← hl]; exact pS,fun i j hi hj e1=>?_,fun b x hx=>?_,fun b b' x x' e1 e2=>m.obs.uniq b b' x x' (b6.1 e1).1 (b6.1 e2).1,fun k hk ho=>?_,fun k hk=>?_⟩
 ·rw [jZ] at hj
  have:=t4 (F:=F) (G:=G) (tk:=s.tk) (hp:=s.hp) (ids:=ptrs vs) (hs:=w.heap.size) vs vals.toList bs 0 (fun i hi=>by rw [← bD]; exact hv i hi) hlen (fun k hk=>by
   obtain ⟨cs,h1,h2,_⟩:=hbs k hk
   rw [Nat.zero_add]
   exact ⟨hk,rfl,cs,h1,h2⟩) hl j hj
  rw [bD]
  exact this
 ·rw [jZ] at hj
  have:=mC h vs 0 j hj
  rw [Nat.zero_add,hl] at this
  exact this
 ·have hnd:=mZ hd
  rw [← hl] at hi hj
  rw [hget i hi,hget j hj] at e1
  have key:(ptrs vs).getD i 0=(ptrs vs).getD j 0→i=j:=fun h=>by
   rw [List.getD_eq_getElem?_getD,List.getD_eq_getElem?_getD] at h
   simp only [hi,hj,List.getElem?_eq_getElem,Option.getD_some] at h
   rcases Nat.lt_trichotomy i j with hij | hij | hij
   ·exact absurd h (List.pairwise_iff_getElem.1 hnd i j hi hj hij)
   ·exact hij
   ·exact absurd h.symm (List.pairwise_iff_getElem.1 hnd j i hj hi hij)
  rcases tY m hb hi with h1 | h1 | ⟨_,_,_,_,_,_,_,o1,h1,h1',h1''⟩ <;> rcases tY m hb hj with h2 | h2 | ⟨_,_,_,_,_,_,_,o2,h2,h2',h2''⟩
  ·rw [e1] at h1
   have:=m.own1 _ _ _ h1 h2
   simp only [Sum.inl.injEq] at this
   exact key this
  ·have:=m.own_lt h1
   omega
  ·rw [e1,h2'] at h1
   rw [ownφ _ _ h1] at h2''
   cases h2''
  ·have:=m.own_lt h2
   omega
  ·omega
  ·have:=hφlt _ _ h2''
   omega
  ·rw [← e1,h1'] at h2
   rw [ownφ _ _ h2] at h1''
   cases h1''
  ·have:=hφlt _ _ h1''
   omega
  ·rw [h1',h2'] at e1
   exact key (m.obs.inj _ _ _ _ h1 h2 (.inl rfl) (.inl rfl) e1)
 ·have hx':eW G s.hp (ptrs vs) b=some x:=hx
  obtain ⟨h1,k,hk,h2,h3⟩:=b6.1 hx'
  obtain ⟨_,_,g3,_,g5⟩:=m.frn b x h1
  refine ⟨g3,g5,k,by omega,?_,?_⟩
  ·obtain ⟨cs,h4,h5,_⟩:=hbs k hk
   rw [h4] at h2
   obtain ⟨_,_,_,_,_,_,_,rfl⟩:=cJ (show bS cs=true from h2)
   rw [h5]
   rfl
  ·obtain ⟨cs,h4,h5,_⟩:=hbs k hk
   rw [h4] at h2
   obtain ⟨_,_,_,_,_,_,_,rfl⟩:=cJ (show bS cs=true from h2)
   rw [hget k hk,fT h4 rfl,h3]
 ·rw [← hl] at hk
  show eW G s.hp (ptrs vs) _=none
  rw [hget k hk]
  rcases tY m hb hk with h1 | h1 | ⟨_,_,_,_,_,_,_,o1,h1,h1',h1''⟩
  ·exact ownφ _ _ h1
  ·cases hh:eW G s.hp (ptrs vs) (gH G s.hp w.heap.size ((ptrs vs).getD k 0) k) with
   | none=>rfl
   | some x =>
    have:=hφlt _ _ hh
    omega
  ·obtain ⟨cs,h4,h5,_⟩:=hbs k hk
   rw [h1] at h4
   cases h4
   rw [h5] at ho
   cases ho
 ·rw [← hl] at hk
  obtain ⟨cs,h1,h2,h3⟩:=hbs k hk
  rw [h2]
  cases ha:cZ cs with
  | true =>
   obtain ⟨fw,z,n,g,rfl⟩:=dS ha
   obtain ⟨a1,c,h4,h5⟩:=m.rows _ fw z n g h1
   refine .inl ⟨z,n,g,rfl,a1,c,?_,h4.le,fun q hq=>?_,fun hc=>?_⟩
   ·show wJ G s.hp (ptrs vs) k n=_
    rw [oW hk h1,if_pos rfl]
    exact h4.at_
   ·show wJ G s.hp (ptrs vs) k q=none
    rw [oW hk h1,if_neg hq]
   ·obtain ⟨b,rfl⟩:=h4.blk hc
    obtain ⟨h6,o,h7,h8⟩:=h5 b rfl hc
    rw [hget k hk,sA h1 h4.at_ hc]
    exact ⟨rfl,h6,o,h7,h8⟩
  | false =>
   cases ho:bS cs with
   | true =>
    obtain ⟨mm,c,va,nl,n,ks,vs2,rfl⟩:=cJ ho
    refine .inr (.inl ⟨mm,va,nl,n,ks,vs2,rfl,?_⟩)
    rw [hget k hk,fT h1 rfl]
    obtain ⟨cs,e,g1,g2,g3⟩:=m.obs.objs _ _ _ _ _ _ _ _ h1
    have hin:∀ b x,G.φ b=some x→x.id=G.β ((ptrs vs).getD k 0)→eW G s.hp (ptrs vs) b=some x:=fun b x hx hxi=>b6.2 ⟨hx,k,hk,by rw [h1]; rfl,hxi.symm⟩
    refine ⟨cs,e,hin _ _ g1 rfl,g2,fun j hj=>?_⟩
    rcases g3 j hj with ⟨g4,g5,g6⟩ | ⟨g4,blk,es,ck,g5,g6,g7,g8⟩
    ·exact .inl ⟨g4,g5,fun k2 y hy=>g6 k2 y (b6.1 hy).1⟩
    ·exact .inr ⟨g4,blk,es,ck,g5,hin _ _ g6 rfl,g7,g8⟩
   | false =>
   have hap:fK cs=false:=by simp only [fK,ha,ho,zM h3,Bool.or_self]
   rw [w8 hap] at h3 ⊢
   have h30:aH (aK cs)=true:=by
    unfold okB at h3
    rw [kX (bO cs),bL (bO cs),Bool.or_false,Bool.or_false] at h3
    exact h3
   obtain ⟨o1,h4,hh1,h7⟩:=m.vars _ cs h1 hap
   obtain ⟨c,e,rfl,h5,h6⟩:=hh1.cells (nE h30)
   have e1:(dH G s.hp w.heap.size (ptrs vs)).getD k 0=G.β ((ptrs vs).getD k 0):=by rw [hget k hk,fT h1 ha]
   rw [e1]
   refine .inr (.inr ⟨h30,c,e,h4,by rw [aM]; exact h5,fun j hj=>?_,h7⟩)
   rw [aM] at hj
   rw [aS]
   exact ⟨(h6 j hj).pure1,(bJ _).symm⟩
theorem lC:∀ {ids:List Nat} {bs:List (List D)} {x:Nat×Bool×List D},x∈aY hp ids bs→x.1∈ids∧∃ f b k,x.2.2=rD k (eU f b)
 | [],_,_,h=>by simp [aY] at h
 | _::_,[],_,h=>by simp [aY] at h
 | i::ids,b::bs,x,h=>by
  simp only [aY,List.mem_cons] at h
  rcases h with rfl | h
  ·exact ⟨by simp,_,b,_,rfl⟩
  ·obtain ⟨h1,h2⟩:=lC h
   exact ⟨List.mem_cons_of_mem _ h1,h2⟩
theorem l5:∀ (l:List D) (i:Nat) (x:Nat×Nat×Nat),x∈aW l i→x.1 < i+l.length
 | [],_,_,h=>by simp [aW] at h
 | d::l,i,x,h=>by
  simp only [List.length_cons]
  have other:x∈aW l (i+1)→x.1 < i+(l.length+1):=fun h=>by have:=l5 l (i+1) x h; omega
  cases d with
  | slice t z n g =>
   cases t with
   | own j =>
    simp only [aW,List.mem_cons] at h
    rcases h with rfl | h
    ·simp only; omega
    ·exact other h
   | _=>exact other h
  | _=>exact other h
theorem aH7 (d:D) {i:Nat} (h:¬(lo≤i∧i < hi)):(d.res.own i).names lo hi=false∧(d.res.own i).names1 lo hi=false:=by
 cases d with
 | slice t z n g=>cases t <;> first | exact ⟨aX h,aX h⟩ | exact ⟨rfl,rfl⟩
 | agg c=>exact ⟨dK c,rfl⟩
 | _=>exact ⟨rfl,rfl⟩
theorem vM (h:Clean lo hi s) {id:Nat} {ids:List Nat} {bs bs':List (List D)} (hb:cQ s.hp ids=some bs) {rs:List D} (h4:rs.length≤4) (hid:id+4≤lo∨hi≤id) (dst:Option Nat) :
  Clean lo hi (s.next dst (mE (cN (aZ rs) id)) ⟨aY s.hp ids bs',aW (aZ rs) id⟩):=by
 have hnth:∀ j,j < rs.length→(nth (cN (aZ rs) id) j .dead).names lo hi=false∧(nth (cN (aZ rs) id) j .dead).names1 lo hi=false:=fun j hj=>by
  rw [oO,gY]
  exact aH7 _ (by omega)
 have hlen:(cN (aZ rs) id).length=rs.length:=by rw [eP,cU]
 refine h.after ?_ (fun x hx=>?_) (fun x hx=>?_) dst
 ·generalize cN (aZ rs) id=l at hnth hlen
  match l,hlen with
  | [],_=>rfl
  | [d],hl=>exact (hnth 0 (by rw [← hl]; simp)).1
  | d::d'::l,hl =>
   show names lo hi (d::d'::l)=false
   exact eQ fun j hj=>(hnth j (by rw [← hl]; exact hj)).2
 ·obtain ⟨h1,f,c,kk,h3⟩:=lC hx
  rw [h3]
  obtain ⟨_,hbs⟩:=dV hb
  obtain ⟨k,hk,h5⟩:=List.mem_iff_getElem.1 h1
  obtain ⟨cs,h6,_⟩:=hbs k hk
  have:ids.getD k 0=x.1:=by simp [hk,h5]
  rw [this] at h6
  exact ⟨(h.hp _ _ _ h6).1,hZ kk f c⟩
 ·have h1:=gT _ _ _ hx
  have h2:=l5 _ _ _ hx
  rw [cU] at h2
  omega
theorem n8 (h:Clean lo hi s) {id:Nat} {ids:List Nat} {bs bs':List (List D)} (hb:cQ s.hp ids=some bs) {l:List D} (hid:id+4≤lo∨hi≤id) (dst:Option Nat) :
  Clean lo hi (s.next dst (.ptr id 0) ⟨aY s.hp ids bs'++[(id,false,aK l)],[]⟩):=by
 refine h.after (v:=.ptr id 0) (show (Nat.ble lo id&&Nat.blt id hi)=false from aX (by omega)) (fun x hx=>?_) (fun x hx=>by simp at hx) dst
 rcases List.mem_append.1 hx with hx | hx
 ·obtain ⟨h1,f,c,kk,h3⟩:=lC hx
  rw [h3]
  obtain ⟨_,hbs⟩:=dV hb
  obtain ⟨k,hk,h5⟩:=List.mem_iff_getElem.1 h1
  obtain ⟨cs,h6,_⟩:=hbs k hk
  have:ids.getD k 0=x.1:=by simp [hk,h5]
  rw [this] at h6
  exact ⟨(h.hp _ _ _ h6).1,hZ kk f c⟩
 ·simp only [List.mem_singleton] at hx
  subst hx
  exact ⟨by simp only; omega,dK l⟩
theorem nA (h:Clean lo hi s) {id:Nat} {ids:List Nat} {bs bs':List (List D)} (hb:cQ s.hp ids=some bs) {z n:Nat} {g:Nat→List D} (hid:id+4≤lo∨hi≤id) (dst:Option Nat) :
  Clean lo hi (s.next dst (.msl id z n) ⟨aY s.hp ids bs'++[(id,false,[.dead,.arr true z n g])],[]⟩):=by
 refine h.after (v:=.msl id z n) (show (Nat.ble lo id&&Nat.blt id hi)=false from aX (by omega)) (fun x hx=>?_) (fun x hx=>by simp at hx) dst
 rcases List.mem_append.1 hx with hx | hx
 ·obtain ⟨h1,f,c,kk,h3⟩:=lC hx
  rw [h3]
  obtain ⟨_,hbs⟩:=dV hb
  obtain ⟨k,hk,h5⟩:=List.mem_iff_getElem.1 h1
  obtain ⟨cs,h6,_⟩:=hbs k hk
  have:ids.getD k 0=x.1:=by simp [hk,h5]
  rw [this] at h6
  exact ⟨(h.hp _ _ _ h6).1,hZ kk f c⟩
 ·simp only [List.mem_singleton] at hx
  subst hx
  exact ⟨by simp only; omega,rfl⟩
theorem gV {id:Nat} {ids:List Nat} {rs:List D} {bs bs':List (List D)} {v:D} {u:Upd} (h:(gX id ids hp bs rs bs').holds v u):nD bs bs'=true ∧
  ((rs.length ≤ 4 ∧ v = mE (cN (aZ rs) id) ∧ u = ⟨aY hp ids bs',aW (aZ rs) id⟩) ∨
   (∃ l,rs=[.newp l]∧aH (aK l)=true∧v=.ptr id 0∧u=⟨aY hp ids bs'++[(id,false,aK l)],[]⟩) ∨
   ∃ f z n g,rs=[.arr f z n g]∧v=.msl id z n∧u=⟨aY hp ids bs'++[(id,false,[.dead,.arr true z n g])],[]⟩):=by
 unfold gX at h
 split at h
 ·rename_i l
  obtain ⟨hb,rfl,rfl⟩:=aG h
  simp only [Bool.and_eq_true] at hb
  exact ⟨hb.1,.inr (.inl ⟨l,rfl,hb.2,rfl,rfl⟩)⟩
 ·rename_i f z n g
  obtain ⟨hb,rfl,rfl⟩:=aG h
  exact ⟨hb,.inr (.inr ⟨f,z,n,g,rfl,rfl,rfl⟩)⟩
 ·obtain ⟨hb,rfl,rfl⟩:=aG h
  simp only [Bool.and_eq_true] at hb
  exact ⟨hb.2,.inl ⟨Nat.le_of_ble_eq_true hb.1.2,rfl,rfl⟩⟩
abbrev aIP (F:Nat→FuncId) (B np:Nat) (w0:World) (ext:List Nat) (σ0:Og) (s:St) (a:Act) (dst:Option Nat) (id n:Nat) (k:D→Upd→Prop) (next:Act→World→Prop):Prop :=
 ∀ v u v' G' w',k v u→Rel F B np w0 ext σ0 G' (s.next dst v u) (a.put dst v') w'→(∀ lo hi,Clean lo hi s→(id+n≤lo∨hi≤id)→Clean lo hi (s.next dst v u))→next (a.put dst v') w'
theorem aF6 {C:aO} {f:FuncId} (hC:COk P F f C) (r:Rel F B np w0 ext σ0 G s a w) {vs:List D} {vals:Array Value} (hsz:vals.size=vs.length) (hv:∀ i,i < vs.length→Rd F G s.tk (vals.getD i undef) (nth vs i .dead))
  {id:Nat} (hnp:np≤id) (hcl:Clean id (id+4) s) {k:D→Upd→Prop} (h:fO C id vs s.hp k) {o:Oper} (hop:(execOp a.eval o).run P w=(callFunc f vals).run P w) {next:Act→World→Prop} {Q:Exit→Act→World→Prop}
  (hn:aIP F B np w0 ext σ0 s a o.dst id 4 k next):o.wp P a w next Q:=by
 unfold Oper.wp
 rw [hop]
 unfold fO at h
 cases hb:cQ s.hp (ptrs vs) with
 | none=>rw [hb] at h; exact h.elim
 | some bs =>
  rw [hb] at h
  simp only at h
  cases hd:dO (ptrs vs) with
  | false=>rw [hd] at h; exact h.elim
  | true =>
   rw [hd] at h
   obtain ⟨hlen,h⟩:=(nY vs bs _).1 h
   have key:∀ (w':World) (rv:Array Value) (rs:List D) (bs':List (List D)) (σ':Sg),(gX id (ptrs vs) s.hp bs rs bs').then k →
     CPost (fH G s.hp (ptrs vs)) w (dH G s.hp w.heap.size (ptrs vs)) w' σ' rs bs' rv→next (a.put o.dst (fB rv)) w':=by
    intro w' rv rs bs' σ' hK post
    obtain ⟨v,u,hh,hK⟩:=cY hK
    obtain ⟨hl,⟨h4,rfl,rfl⟩ | ⟨l,rfl,hls,rfl,rfl⟩ | ⟨f,z,n,g,rfl,rfl,rfl⟩⟩:=gV hh
    ·obtain ⟨G',r'⟩:=aE8 r hnp hcl hb hd post hl h4 o.dst
     exact hn _ _ _ G' w' hK r' fun lo hi hc hid=>vM hc hb h4 hid o.dst
    ·obtain ⟨G',r'⟩:=uC r hnp hcl hb hd post hl hls o.dst
     exact hn _ _ _ G' w' hK r' fun lo hi hc hid=>n8 hc hb hid o.dst
    ·obtain ⟨G',r'⟩:=uE r hnp hcl hb hd post hl o.dst
     exact hn _ _ _ G' w' hK r' fun lo hi hc hid=>nA hc hb hid o.dst
   rcases hC with hC | hC
   ·rw [hC.enter,Oper.upon_enter]
    refine (hC.calls _ w _ vals _ bs _ (aD0 r hsz hv hb hd hlen) h).mono fun e w' hh=>?_
    obtain ⟨rv,rs,bs',σ',rfl,hK,post⟩:=hh
    exact key w' rv rs bs' σ' hK post
   ·obtain ⟨w',rv,rs,bs',σ',hr,hK,post⟩:=hC.calls _ w _ vals _ bs _ (aD0 r hsz hv hb hd hlen) h
    rw [hr,Oper.upon_value]
    exact key w' rv rs bs' σ' hK post
theorem Re.rd {v:Value} {d:D} (h:Re G.σ v d):Rd F G tk v d:=by
 cases h with
 | pure h1 h2=>rw [h2]; exact .any (.cell (.pure (h2 ▸ h1) (cC _ _)))
 | eptr b o l h1=>exact .any (.cell (.eptr b o l h1))
theorem Rd.fn_inv {v:Value} {f:Nat} {l:List D} (h:Rd F G tk v (.fn f l)):∃ cap:Array Value,v=.func (.func (F f)) #[] cap∧cap.size=l.length∧∀ j,j < l.length→Re G.σ (cap.getD j undef) (nth l j .dead):=by
 cases h with | any h=>cases h with | cell h=>cases h with | pure h _=>cases h | fn _ cap _ h1 h2=>exact ⟨cap,rfl,h1,h2⟩
theorem gJ (o:AOp) (id:Nat) (args:List D) (k:D→Upd→Prop):step E o id hp tk args k=match o with
 | .call p f=>(match agc E id f with
  | some C=>bif p then fO C id args hp k else Br (qX args) (fO C id args hp k) False
  | none=>False)
 | .callv p=>(match args with
  | .fn f cap::r=>(match ag E f with
   | some C=>bif p then fO C id (r++cap) hp k else Br (qX (r++cap)) (fO C id (r++cap) hp k) False
   | none=>False)
  | _=>False)
 | .mapNext=>(match args with
  | [.ptr i 0]=>nU i hp (hp i) k
  | _=>False)
 | o=>(aP o id hp tk args).then k:=by
 cases o <;> rfl
theorem tC (c:Call) (xs:List AX):m9 P ft np c≠some (.mapNext,xs):=fun hc2=>by
 obtain ⟨callee,args,ts⟩:=c
 unfold m9 at hc2
 split at hc2
 ·split at hc2 <;> cases hc2
 ·rw [Option.map_eq_some_iff] at hc2
  obtain ⟨_,_,hc2⟩:=hc2
  cases hc2
 ·unfold kQ at hc2
  split at hc2
  ·unfold aB6 at hc2
   split at hc2 <;> cases hc2
  ·unfold nB at hc2
   split at hc2
   ·split at hc2
    ·split at hc2 <;> cases hc2
    ·cases hc2
   ·cases hc2
  ·unfold p4 at hc2
   split at hc2 <;> cases hc2
  ·rw [Option.map_eq_some_iff] at hc2
   obtain ⟨_,_,hc2⟩:=hc2
   cases hc2
  ·rw [Option.map_eq_some_iff] at hc2
   obtain ⟨_,_,hc2⟩:=hc2
   cases hc2
  ·cases hc2
 ·cases hc2
theorem wM {op:BinOp} {p b:Bool} {l:List AX} {xs:List AX} (h:zR op p b l=some (.mapNext,xs)):False:=by
 unfold zR at h
 split at h
 ·cases b with
  | false=>cases h
  | true =>
   simp only [cond_true] at h
   split at h <;> cases h
 ·cases h
theorem aB3 {op:BinOp} {b:Bool} {l:List AX} {xs:List AX} (h:vV op b l=some (.mapNext,xs)):False:=by
 unfold vV at h
 split at h
 ·cases b with
  | false=>cases h
  | true =>
   simp only [cond_true] at h
   split at h <;> cases h
 ·cases h
theorem aEP {o:Oper} {xs:List AX} (h:yR P ft np o=some (.mapNext,xs)):∃ x,o.op=.next x false∧∃ ax,trX ft x=some ax∧xs=[ax]:=by
 cases hop:o.op <;> rw [yR,hop] at h <;> simp only at h
 case next x isS =>
  rw [Option.map_eq_some_iff] at h
  obtain ⟨ax,h1,h2⟩:=h
  cases isS with
  | true=>cases h2
  | false =>
   cases h2
   exact ⟨x,rfl,ax,h1,rfl⟩
 case call c=>exact absurd h (tC c xs)
 case binOp op t x y ty =>
  exfalso
  unfold aF4 at h
  split at h
  ·split at h
   ·unfold aHE at h
    split at h
    ·split at h <;> cases h
    ·split at h <;> cases h
    ·cases h
   ·unfold aHE at h
    split at h
    ·split at h <;> cases h
    ·split at h <;> cases h
    ·cases h
   ·split at h <;> cases h
   ·cases h
   ·cases h
   ·exact wM h
   ·exact wM h
   ·exact aB3 h
   ·cases h
  ·cases h
 all_goals
  exfalso
  first
   | (cases h; done)
   | (rw [Option.map_eq_some_iff] at h; obtain ⟨_,_,h⟩:=h; cases h; done)
   | (simp only [vB,tP,t7,iO,aAF,tU,j3,t0,jW,tV,tS,aBD,lN,jU,aBP,sN,n5,vN] at h
      repeat' split at h
      all_goals first
       | (cases h; done)
       | (rw [Option.map_eq_some_iff] at h; obtain ⟨_,_,h⟩:=h; cases h; done))
theorem aKO (hE:EnvOk P F E) (hft:∀ f j,ag ft f=some j→F j=f) (r:Rel F B np w0 ext σ0 G s a w) {o:Oper} {ao:AOp} {xs:List AX} (ht:aFH P ft np o=some (ao,xs)) (hok:kC ao=true) (hax:xs.all nQ=true) {id:Nat} (hnp:np≤id)
  (hcl:Clean id (id+bE ao) s) {k:D→Upd→Prop} (h:step E ao id s.hp s.tk (evs s.fr xs) k) {next:Act→World→Prop} {Q:Exit→Act→World→Prop} (hn:aIP F B np w0 ext σ0 s a o.dst id (bE ao) k next):o.wp P a w next Q:=by
 have hnoc:dY ao=false→o.wp P a w next Q:=by
  intro hnc
  cases hnx:i6 ao with
  | true =>
   have:ao=.mapNext:=by cases ao <;> first | rfl | cases hnx
   subst this
   rcases pG ht with ⟨c,_,hc2⟩ | ⟨h1,_⟩ | ⟨h1,_⟩
   ·exact absurd hc2 (tC c xs)
   ·obtain ⟨x,hop,ax,hx,rfl⟩:=aEP h1
    rw [gJ] at h
    simp only [evs] at h
    split at h
    ·rename_i i hargs
     obtain ⟨hax',_⟩:=List.cons.inj hargs
     have hrd:=bB (a:=a) hft r hx
     rw [hax'] at hrd
     obtain ⟨v,u,w',r',v',G',hk,hv,h1,h2,h3⟩:=aJF (P:=P) r hnp hcl hrd o.type h o.dst
     have:=hn v u v' G' w' hk h3 fun lo hi hc hid=>aEF r hc hv o.dst
     unfold Oper.wp
     have hrun:(execOp a.eval o).run P w=(((Instr.next (a.eval x) false o.type).run P w).andThen fun v w=>.ok (.value v) w):=by
      simp only [execOp,hop,Sem.run_bind,Sem.run_pure]
     rw [hrun,h1]
     rcases h2 with rfl | ⟨rfl,rfl⟩
     ·exact this
     ·exact this
    ·exact h.elim
   ·cases h1
  | false =>
  have h':(aP ao id s.hp s.tk (evs s.fr xs)).then k:=by
   rw [gJ] at h
   cases ao <;> first | exact h | (cases hnc; done) | (cases hnx; done)
  obtain ⟨v,u,hh,hk⟩:=cY h'
  obtain ⟨w',r',v',G',h1,h2,h3⟩:=aL5 hft r ht hnc hnp hcl hh o.dst
  have:=hn v u v' G' w' hk h3 fun lo hi hc hid=>aKK r hc hok hax hid hh o.dst
  unfold Oper.wp
  rw [h1]
  rcases h2 with rfl | ⟨rfl,rfl⟩
  ·exact this
  ·exact this
 rcases pG ht with ⟨c,hc,hcall⟩ | ⟨_,hnc⟩ | ⟨rfl,_⟩
 ·obtain ⟨callee,args,ts⟩:=c
  unfold m9 at hcall
  split at hcall
  ·rename_i f hf
   simp only at hf
   subst hf
   split at hcall
   ·rename_i j as hj has
    cases hcall
    obtain ⟨h1,h2,h3⟩:=sM hft r has
    have:=hft f j hj
    subst this
    have hrun:(execOp a.eval o).run P w=(callFunc (F j) (args.map a.eval)).run P w:=by
     simp [execOp,hc,resolve,Act.eval,Deferred.ofValue,invoke]
    have hsz:(args.map a.eval).size=(evs s.fr xs).length:=by rw [h2,← h1]; simp
    have hv:∀ i,i < (evs s.fr xs).length→Rd F G s.tk ((args.map a.eval).getD i undef) (nth (evs s.fr xs) i .dead):=fun i hi=>by
     have:=h3 i (by omega)
     rw [bD,Array.toList_map]
     exact this
    rw [gJ] at h
    simp only at h
    cases hE':agc E id j with
    | none=>rw [hE'] at h; exact h.elim
    | some C =>
     rw [hE'] at h
     simp only at h
     have hk:fO C id (evs s.fr xs) s.hp k:=by
      cases hp:aED P (Nat.ble 1000000 np) (F j) ts.toList with
      | true=>rw [hp] at h; exact h
      | false =>
       rw [hp] at h
       simp only [cond_false] at h
       cases hnp:qX (evs s.fr xs) with
       | true=>rw [hnp] at h; exact h
       | false=>rw [hnp] at h; exact h.elim
     exact aF6 (hE.get hE') r hsz hv hnp hcl hk hrun hn
   ·cases hcall
  ·rename_i t ht'
   simp only at ht'
   subst ht'
   rw [Option.map_eq_some_iff] at hcall
   obtain ⟨as,has,hcall⟩:=hcall
   cases hcall
   obtain ⟨h1,h2,h3⟩:=aFE hft r has
   rw [gJ] at h
   simp only [evs] at h
   split at h
   ·rename_i f cap rest hargs
    obtain ⟨hf,hr⟩:=List.cons.inj hargs
    subst hr
    have hfn:=bB (a:=a) (ft:=ft) hft r (x:=.tmp t) (ax:=.t t) rfl
    rw [hf] at hfn
    obtain ⟨cv,e1,e2,e3⟩:=hfn.fn_inv
    have hrun:(execOp a.eval o).run P w=(callFunc (F f) (args.map a.eval++cv)).run P w:=by
     simp [execOp,hc,resolve,e1,Deferred.ofValue,invoke]
    have hsz0:(args.map a.eval).size=(evs s.fr as).length:=by rw [h2,← h1]; simp
    have hsz:(args.map a.eval++cv).size=(evs s.fr as++cap).length:=by
     rw [Array.size_append,List.length_append,hsz0,e2]
    have hv:∀ i,i < (evs s.fr as++cap).length→Rd F G s.tk ((args.map a.eval++cv).getD i undef) (nth (evs s.fr as++cap) i .dead):=fun i hi=>by
     rw [jJ]
     rw [List.length_append] at hi
     split
     ·rename_i hlt
      have:=h3 i (by omega)
      have e4:(args.map a.eval++cv).getD i undef=(args.map a.eval).getD i undef:=by
       simp only [Array.getD_eq_getD_getElem?]
       rw [Array.getElem?_append_left (by omega)]
      rw [e4,bD,Array.toList_map]
      exact this
     ·rename_i hge
      have e4:(args.map a.eval++cv).getD i undef=cv.getD (i - (evs s.fr as).length) undef:=by
       simp only [Array.getD_eq_getD_getElem?]
       rw [Array.getElem?_append_right (by omega),hsz0]
      rw [e4]
      exact (e3 _ (by omega)).rd
    cases hE':ag E f with
    | none=>rw [hE'] at h; exact h.elim
    | some C =>
     rw [hE'] at h
     simp only at h
     have hk:fO C id (evs s.fr as++cap) s.hp k:=by
      cases hp:aAY P (Nat.ble 1000000 np) ts.toList with
      | true=>rw [hp] at h; exact h
      | false =>
       rw [hp] at h
       simp only [cond_false] at h
       cases hnp:qX (evs s.fr as++cap) with
       | true=>rw [hnp] at h; exact h
       | false=>rw [hnp] at h; exact h.elim
     exact aF6 (hE.2 f C hE') r hsz hv hnp hcl hk hrun hn
   ·exact h.elim
  ·rename_i b hb
   refine hnoc ?_
   unfold kQ at hcall
   split at hcall
   ·unfold aB6 at hcall
    split at hcall <;> first | (cases hcall; rfl) | cases hcall
   ·unfold nB at hcall
    split at hcall
    ·split at hcall
     ·split at hcall
      ·cases hcall; rfl
      ·cases hcall
     ·cases hcall
    ·cases hcall
   ·unfold p4 at hcall
    split at hcall <;> first | (cases hcall; rfl) | cases hcall
   ·rw [Option.map_eq_some_iff] at hcall
    obtain ⟨_,_,hcall⟩:=hcall
    cases hcall
    rfl
   ·rw [Option.map_eq_some_iff] at hcall
    obtain ⟨_,_,hcall⟩:=hcall
    cases hcall
    rfl
   ·cases hcall
  ·cases hcall
 ·exact hnoc hnc
 ·exact hnoc rfl
end
def FlatS:D→Prop
 | .agg l=>∀ e∈l,Cell e
 | .tup l=>∀ e∈l,match e with
  | .agg c=>∀ x∈c,Cell x∧x=x.pure1
  | .tup _=>False
  | _=>True
 | _=>True
structure Tidy (lo hi:Nat) (s:St):Prop where
 fr:∀ d∈s.fr,d.names lo hi=false∧FlatS d
 hp:∀ i f cs,s.hp i=some (f,cs)→¬(lo≤i∧i < hi)∧names lo hi cs=false∧∀ e∈cs,Cell e
 tk:∀ i e,s.tk i=some e→¬(lo≤i∧i < hi)
section
variable {P:Program} {F:Nat→FuncId} {B np:Nat} {w0 w w':World} {ext:List Nat} {σ0:Og} {G G':Gh} {s:St} {a:Act} {ft:FT} {hp:Nat→Option (Bool×List D)} {tk:Nat→Option (Nat×Nat)} {lo hi id:Nat} {E:Env}
theorem FlatS.flatD {d:D} (h:FlatS d):yQ lo hi d:=by
 cases d with
 | agg l=>exact h
 | tup l =>
  intro e he
  have:=h e he
  cases e with
  | agg c=>exact aU.2 fun x hx=>by rw [(this x hx).2]; exact dB _
  | tup c=>exact this
  | _=>trivial
 | _=>trivial
theorem Cell.flat {d:D} (h:Cell d):FlatS d:=by cases d <;> first | trivial | exact h.elim
theorem Rd.flatS {v:Value} {d:D} (h:Rd F G tk v d):FlatS d:=by
 cases h with
 | any h =>
  cases h with
  | cell h=>exact h.cell.flat
  | agg cs l h1 h2 =>
   intro e he
   obtain ⟨j,hj,rfl⟩:=List.mem_iff_getElem.1 he
   have:=(h2 j hj).cell
   rw [dN l _ hj] at this
   exact this
 | tup vs l h1 h2 =>
  intro e he
  obtain ⟨j,hj,rfl⟩:=List.mem_iff_getElem.1 he
  have:=h2 j hj
  rw [dN l _ hj] at this
  generalize l[j]=e at this
  generalize vs.getD j undef=v at this
  cases this with
  | cell h =>
   have:=h.cell
   cases e <;> first | trivial | exact this.elim
  | agg cs c h3 h4 =>
   intro x hx
   obtain ⟨q,hq,rfl⟩:=List.mem_iff_getElem.1 hx
   have:=h4 q hq
   rw [dN c _ hq] at this
   exact ⟨this.1.cell,this.2⟩
 | mref id=>trivial
 | msl _ _ _ _ _ _ _ _=>trivial
 | rptr _ _ _ _ _ _ _ _=>trivial
 | oref _ _ _ _=>trivial
 | oagg _ _ _ _ _ _=>trivial
 | osl _ _ _ _ _ _ _=>trivial
theorem Rel.tidy (r:Rel F B np w0 ext σ0 G s a w) (h:Clean lo hi s):Tidy lo hi s:=by
 refine ⟨fun d hd=>?_,aJ1 r h,h.tk⟩
 obtain ⟨j,hj,rfl⟩:=List.mem_iff_getElem.1 hd
 have h1:=h.fr j hj
 have h2:=(r.slots j hj).flatS
 rw [dN s.fr _ hj] at h1 h2
 exact ⟨h1,h2⟩
theorem Tidy.clean (h:Tidy lo hi s):Clean lo hi s :=
 ⟨fun i hi'=>by rw [dN s.fr _ hi']; exact (h.fr _ (List.getElem_mem hi')).1,fun i f cs hx=>⟨(h.hp i f cs hx).1,(h.hp i f cs hx).2.1⟩,h.tk⟩
theorem lS {dst:Option Nat} {v:D} {fr:List D} {d:D} (h:d∈fI dst v fr):d=v∨d∈fr:=by
 cases dst with
 | none=>exact .inr h
 | some i=>exact aAW h
theorem Tidy.after (h:Tidy lo hi s) {v:D} {u:Upd} (hv:v.names lo hi=false∧FlatS v) (hh:∀ x∈u.h,¬(lo≤x.1∧x.1 < hi)∧names lo hi x.2.2=false∧∀ e∈x.2.2,Cell e) (ht:∀ x∈u.t,¬(lo≤x.1∧x.1 < hi)) (dst:Option Nat) :
  Tidy lo hi (s.next dst v u):=by
 refine ⟨fun d hd=>?_,fun i f cs hx=>?_,fun i e hx=>?_⟩
 ·rcases lS hd with rfl | hd
  ·exact hv
  ·exact h.fr d hd
 ·rcases kG hx with h1 | h1
  ·exact h.hp i f cs h1
  ·exact hh _ h1
 ·rcases vY hx with h1 | h1
  ·exact h.tk i e h1
  ·exact ht _ h1
theorem uH (h:Tidy lo hi s) {xs:List AX} (hx:xs.all nQ=true):∀ d∈evs s.fr xs,d.names lo hi=false∧FlatS d:=by
 intro d hd
 obtain ⟨x,hx',rfl⟩:=aAT hd
 have hx:=List.all_eq_true.1 hx x hx'
 cases x with
 | t i =>
  simp only [AX.ev]
  rcases qY (l:=s.fr) (j:=i) with h1 | h1
  ·exact h.fr _ h1
  ·rw [h1]; exact ⟨rfl,trivial⟩
 | c d =>
  refine ⟨(pY (lo:=lo) (hi:=hi) hx).1,?_⟩
  have h1:=(pY (lo:=lo) (hi:=hi) hx).2
  cases d with
  | agg l=>exact h1
  | tup l=>cases hx
  | _=>trivial
theorem eS (l:List D):∀ e∈aK l,Cell e:=by
 intro e he
 obtain ⟨x,_,rfl⟩:=fZ he
 exact dE x
theorem aIL {d:D} (h:Cell d):Cell d.ro1:=by
 cases d with
 | slice t z n g=>cases t <;> trivial
 | _=>first | trivial | exact h.elim
theorem aJX {l:List D} (h:∀ e∈l,Cell e):∀ e∈ros l,Cell e:=by
 intro e he
 obtain ⟨x,hx,rfl⟩:=aFX he
 exact aIL (h x hx)
theorem fL {g:Bool} {n:Nat} {l:List D} {v:D} {u:Upd} (h:(cF g n l).holds v u) (h2:∀ e∈l,Cell e):FlatS v:=by
 unfold cF at h
 cases hb:Nat.ble n l.length with
 | false=>rw [hb] at h; exact (aB h).elim
 | true =>
  rw [hb] at h
  obtain ⟨rfl,rfl⟩:=aD h
  cases g with
  | true=>exact fun e he=>h2 e (List.mem_of_mem_take he)
  | false =>
   simp only [mkv,cond_false]
   rcases qY (l:=l.take n) (j:=0) with h4 | h4
   ·exact (h2 _ (List.mem_of_mem_take h4)).flat
   ·rw [h4]; trivial
theorem zL:∀ {qs:List (Nat×Nat)} {xs cells l:List D},fill cells qs xs=some l→(∀ e∈cells,Cell e)→∀ e∈l,Cell e
 | [],[],cells,l,h,hc=>by cases h; exact hc
 | [],_::_,_,_,h,_=>by simp [fill] at h
 | _::_,[],_,_,h,_=>by simp [fill] at h
 | (off,size)::qs,x::xs,cells,l,h,hc=>by
  simp only [fill] at h
  cases hb:(aH x.cells&&Nat.beq x.cells.length size&&Nat.ble (off+size) cells.length) with
  | false=>rw [hb] at h; cases h
  | true =>
   rw [hb] at h
   simp only [Bool.and_eq_true] at hb
   refine zL h fun e he=>?_
   rcases lB he with he | he
   ·exact hc e he
   ·exact gP hb.1.1 e he
theorem vP {d:D} (h:wD d=true):Cell d:=by cases d <;> first | trivial | cases h
theorem n7:∀ (l:List D) (ds:List D) (u:List (Nat×Bool×List D)),freeze np hp l=some (ds,u)→∀ x∈u,∀ e∈x.2.2,Cell e
 | [],ds,u,h,x,hx=>by simp only [freeze,Option.some.injEq,Prod.mk.injEq] at h; rw [← h.2] at hx; simp at hx
 | d::l,ds,u,h,x,hx=>by
  have other:(match freeze np hp l with | some (ds,u)=>bif aH [d] then some (d.pure::ds,u) else none | none=>none)=some (ds,u)→∀ e∈x.2.2,Cell e:=by
   intro h
   cases hf:freeze np hp l with
   | none=>simp [hf] at h
   | some p =>
    obtain ⟨ds',u'⟩:=p
    simp only [hf] at h
    cases hs:aH [d] with
    | false=>rw [hs] at h; cases h
    | true =>
     rw [hs] at h
     cases h
     exact n7 l _ _ hf x hx
  cases d with
  | ptr i off =>
   simp only [freeze] at h
   cases hi':hp i with
   | none=>simp [hi'] at h
   | some e =>
    obtain ⟨f,cs⟩:=e
    cases hf:freeze np hp l with
    | none=>simp [hi',hf] at h
    | some p =>
     obtain ⟨ds',u'⟩:=p
     simp only [hi',hf] at h
     cases hb:((f || aH cs)&&Nat.ble np i) with
     | false=>rw [hb] at h; cases h
     | true =>
      rw [hb] at h
      cases h
      simp only [List.mem_cons] at hx
      rcases hx with rfl | hx
      ·exact eS _
      ·exact n7 l _ _ hf x hx
  | fn f c=>simp [freeze] at h
  | _=>exact other h
theorem aIU {op:BinOp} {x y v:D} {u:Upd} (h:(bin op x y).holds v u):Cell v:=by
 unfold bin at h
 split at h
 ·rename_i k a k' b
  cases hs:oJ op with
  | true =>
   rw [hs] at h
   simp only [cond_true] at h
   unfold wL at h
   split at h
   ·obtain ⟨_,rfl,rfl⟩:=aG h; trivial
   ·obtain ⟨_,rfl,rfl⟩:=aG h; trivial
   ·exact (aB h).elim
  | false =>
   rw [hs] at h
   simp only [cond_false] at h
   cases hk:kB k k' with
   | false=>rw [hk] at h; exact (aB h).elim
   | true =>
    rw [hk] at h
    simp only [cond_true] at h
    unfold aA3 at h
    split at h
    all_goals first
     | exact (aB h).elim
     | (obtain ⟨rfl,rfl⟩:=aD h; trivial)
     | (obtain ⟨_,rfl,rfl⟩:=aG h; trivial)
 ·unfold aAN at h
  split at h
  all_goals first
   | exact (aB h).elim
   | (obtain ⟨rfl,rfl⟩:=aD h; trivial)
   | (obtain ⟨_,rfl,rfl⟩:=aG h; trivial)
 ·exact (aB h).elim
theorem sX {sz bytes:Nat} {t:Tag} {z n:Nat} {g:Nat→List D} {m:Nat} {k:Nat→List D} {v:D} {u:Upd} (h:(dL id sz bytes tk t z n g m k).holds v u):Cell v∧u.h=[]:=by
 unfold dL at h
 cases hb:Nat.beq z sz with
 | false=>rw [hb] at h; exact (aB h).elim
 | true =>
  rw [hb] at h
  simp only [Bool.not_true,cond_false] at h
  split at h
  ·split at h
   ·rename_i z' n' hi'
    cases hb2:Nat.beq z' sz with
    | false=>rw [hb2] at h; exact (aB h).elim
    | true =>
     rw [hb2] at h
     obtain ⟨_,rfl,rfl⟩:=aT h
     exact ⟨trivial,rfl⟩
   ·exact (aB h).elim
  ·obtain ⟨_,rfl,rfl⟩:=aT h
   exact ⟨trivial,rfl⟩
  ·exact (aB h).elim
theorem oS {va:Bool} {l:List D}:match mkv va (aK l) with
  | .agg c=>∀ x∈c,Cell x∧x=x.pure1
  | .tup _=>False
  | _=>True:=by
 cases va with
 | true =>
  intro x hx
  obtain ⟨e,_,rfl⟩:=fZ hx
  exact ⟨dE e,(bJ e).symm⟩
 | false =>
  have:mkv false (aK l)=(nth l 0 .dead).pure1:=by
   simp only [mkv,cond_false]
   rw [aS]
  rw [this]
  have:=dE (nth l 0 .dead)
  generalize (nth l 0 D.dead).pure1=d at this
  cases d <;> first | trivial | exact this.elim
theorem aIG {va:Bool} {l:List D}:FlatS (mkv va (aK l)):=by
 have:=oS (va:=va) (l:=l)
 generalize mkv va (aK l)=d at this
 cases d with
 | agg c=>exact fun e he=>(this e he).1
 | tup c=>exact this.elim
 | _=>trivial
theorem sV {comma va ok:Bool} {l:List D}:FlatS (gR comma va ok l):=by
 cases comma with
 | false=>exact aIG
 | true =>
  intro e he
  simp only [List.mem_cons,List.not_mem_nil,or_false] at he
  rcases he with rfl | rfl
  ·exact oS
  ·trivial
theorem rF {g:Bool} {n i off:Nat} {e:Bool×List D} {v:D} {u:Upd} (h:(oM g n i off e).holds v u):FlatS v∧u=Upd.none:=by
 unfold oM at h
 split at h
 ·obtain ⟨_,rfl,rfl⟩:=aG h
  cases g <;> exact ⟨trivial,rfl⟩
 ·exact (aB h).elim
theorem qN {i:Nat} {f:Bool} {a b:D} (ha:Cell a) (hb:Cell b):∀ x∈(⟨[(i,f,[a,b])],[]⟩:Upd).h,∀ e∈x.2.2,Cell e:=fun x hx e he=>by
 simp only [List.mem_singleton] at hx
 subst hx
 simp only [List.mem_cons,List.not_mem_nil,or_false] at he
 rcases he with rfl | rfl
 ·exact ha
 ·exact hb
theorem x5 {n i off:Nat} {e:Bool×List D} {x v:D} {u:Upd} (h:(kR hp n i off e x).holds v u):FlatS v∧∀ x∈u.h,∀ e∈x.2.2,Cell e:=by
 unfold kR at h
 split at h
 ·obtain ⟨_,h⟩:=a7 h
  unfold objSet at h
  split at h
  ·obtain ⟨_,rfl,rfl⟩:=aG h
   refine ⟨trivial,fun y hy e he=>?_⟩
   simp only [List.mem_cons,List.not_mem_nil,or_false] at hy
   rcases hy with rfl | rfl
   ·simp only [List.mem_cons,List.not_mem_nil,or_false] at he
    rcases he with rfl | rfl <;> trivial
   ·simp at he
  ·exact (aB h).elim
 ·exact (aB h).elim
theorem aGX {o:AOp} {args:List D} {v:D} {u:Upd} (h:(kO o id hp args).holds v u):FlatS v∧∀ x∈u.h,∀ e∈x.2.2,Cell e:=by
 have none':∀ x∈Upd.none.h,∀ e∈x.2.2,Cell e:=fun x hx=>by simp [Upd.none] at hx
 unfold kO at h
 split at h
 ·unfold aJQ at h
  split at h
  ·obtain ⟨_,rfl,rfl⟩:=aG h
   exact ⟨trivial,none'⟩
  ·exact (aB h).elim
 ·unfold aKI at h
  split at h
  ·obtain ⟨_,h⟩:=a7 h
   obtain ⟨_,rfl,rfl⟩:=aG h
   exact ⟨trivial,qN trivial trivial⟩
  ·exact (aB h).elim
 ·unfold aKF at h
  split at h
  ·obtain ⟨_,h⟩:=a7 h
   rcases bP h with ⟨_,rfl,rfl⟩ | ⟨_,rfl,rfl⟩
   ·exact ⟨sV,none'⟩
   ·exact ⟨sV,none'⟩
  ·exact (aB h).elim
 ·unfold aH8 at h
  split at h
  ·obtain ⟨_,rfl,rfl⟩:=aG h
   exact ⟨fun e he=>by simp at he,qN trivial trivial⟩
  ·exact (aB h).elim
 ·unfold aEG at h
  split at h
  ·obtain ⟨_,rfl,rfl⟩:=aG h
   exact ⟨trivial,qN trivial trivial⟩
  ·exact (aB h).elim
 ·unfold vK at h
  split at h
  ·split at h
   ·obtain ⟨_,rfl,rfl⟩:=aT h
    refine ⟨fun e he=>?_,none'⟩
    simp only [List.mem_cons,List.not_mem_nil,or_false] at he
    rcases he with rfl | rfl
    ·trivial
    ·exact oS
   ·exact (aB h).elim
  ·exact (aB h).elim
 ·obtain ⟨rfl,rfl⟩:=aD h
  exact ⟨trivial,none'⟩
 ·obtain ⟨rfl,rfl⟩:=aD h
  exact ⟨trivial,none'⟩
 ·obtain ⟨rfl,rfl⟩:=aD h
  exact ⟨trivial,none'⟩
 ·rename_i g z len k off m nl kd i
  have h:(bif !(!(g || !(Nat.beq z 1))) then Out.bad else Out.chk (decide (0≤i)&&decide (i < len)&&Nat.ble len m) (.oref k (off+i.toNat) (nl (off+i.toNat))) Upd.none).holds v u:=by rw [Bool.not_not]; exact h
  obtain ⟨_,h⟩:=dD h
  obtain ⟨_,rfl,rfl⟩:=aG h
  exact ⟨trivial,none'⟩
 ·split at h
  ·split at h
   ·split at h
    ·obtain ⟨_,rfl,rfl⟩:=aG h
     exact ⟨trivial,none'⟩
    ·exact (aB h).elim
   ·exact (aB h).elim
  ·exact (aB h).elim
 ·obtain ⟨rfl,rfl⟩:=aD h
  exact ⟨trivial,none'⟩
 ·obtain ⟨_,h⟩:=a7 h
  obtain ⟨_,rfl,rfl⟩:=aG h
  exact ⟨trivial,none'⟩
 ·exact (aB h).elim
theorem aKH {o:AOp} {args:List D} {v:D} {u:Upd} (h:(aP o id hp tk args).holds v u) (ho:kC o=true) (ha:∀ d∈args,FlatS d) (hh:∀ i f cs,hp i=some (f,cs)→∀ e∈cs,Cell e):FlatS v∧∀ x∈u.h,∀ e∈x.2.2,Cell e:=by
 have none':∀ x∈Upd.none.h,∀ e∈x.2.2,Cell e:=fun x hx=>by simp [Upd.none] at hx
 unfold aP at h
 split at h
 ·obtain ⟨rfl,rfl⟩:=aD h; exact ⟨ha _ (by simp),none'⟩
 ·rename_i c x y
  obtain ⟨rfl,rfl⟩:=aD h
  refine ⟨?_,none'⟩
  cases c
  ·exact ha y (by simp)
  ·exact ha x (by simp)
 ·rename_i cells
  cases hs:aH cells with
  | false=>rw [hs] at h; exact (aB h).elim
  | true =>
   rw [hs] at h
   obtain ⟨rfl,rfl⟩:=a6 h
   refine ⟨trivial,fun x hx=>?_⟩
   simp only [List.mem_singleton] at hx
   subst hx
   intro e he
   obtain ⟨j,hj,rfl⟩:=List.mem_iff_getElem.1 he
   have h1:=oO cells (id+1) j
   rw [dN _ _ hj] at h1
   rw [h1]
   rw [eP] at hj
   have h2:=gP hs _ (List.getElem_mem hj)
   rw [dN cells _ hj]
   generalize cells[j]=d at h2
   cases d with
   | slice t z n g=>cases t <;> trivial
   | _=>first | trivial | exact h2.elim
 ·rename_i x
  cases hs:aH x.cells with
  | false=>rw [hs] at h; exact (aB h).elim
  | true =>
   rw [hs] at h
   obtain ⟨rfl,rfl⟩:=a6 h
   refine ⟨trivial,fun y hy=>?_⟩
   simp only [List.mem_singleton] at hy
   subst hy
   exact gP hs
 ·split at h
  ·rename_i f cs hi'
   cases hfs:(f || aH cs) with
   | false =>
    rw [hfs] at h
    obtain ⟨h1,rfl⟩:=rF h
    exact ⟨h1,none'⟩
   | true =>
   rw [hfs] at h
   simp only [cond_true] at h
   have h1:=fL h (fun e he=>hh _ _ _ hi' e (List.mem_of_mem_drop he))
   obtain ⟨_,rfl⟩:=cK (lo:=0) (hi:=0) h (aU.2 fun d _=>bI d) (fun e he=>hh _ _ _ hi' e (List.mem_of_mem_drop he))
   exact ⟨h1,none'⟩
  ·exact (aB h).elim
 ·have h1:=fL h (eS _)
  obtain ⟨_,rfl⟩:=cK (lo:=0) (hi:=0) h (aU.2 fun d _=>bI d) (eS _)
  exact ⟨h1,none'⟩
 ·rename_i n i off x
  split at h
  ·rename_i cs hi'
   cases hsol:aH cs with
   | false =>
    rw [hsol] at h
    exact x5 h
   | true =>
   rw [hsol] at h
   simp only [Bool.not_true,cond_false] at h
   cases hb:(aH x.cells&&Nat.beq x.cells.length n&&Nat.ble (off+n) cs.length) with
   | false=>rw [hb] at h; exact (aB h).elim
   | true =>
    rw [hb] at h
    obtain ⟨rfl,rfl⟩:=a6 h
    simp only [Bool.and_eq_true] at hb
    refine ⟨trivial,fun y hy=>?_⟩
    simp only [List.mem_singleton] at hy
    subst hy
    intro e he
    rcases lB he with he | he
    ·exact hh _ _ _ hi' e he
    ·exact gP hb.1.1 e he
  ·exact (aB h).elim
 ·obtain ⟨rfl,rfl⟩:=aD h; exact ⟨trivial,none'⟩
 ·obtain ⟨rfl,rfl⟩:=aD h; exact ⟨trivial,none'⟩
 ·rename_i g off n l
  have h0:∀ e∈l.drop off,Cell e:=fun e he=>ha (.agg l) (by simp) e (List.mem_of_mem_drop he)
  have h1:=fL h h0
  obtain ⟨_,rfl⟩:=cK (lo:=0) (hi:=0) h (aU.2 fun d _=>bI d) h0
  exact ⟨h1,none'⟩
 ·rename_i sz t z n g k i
  cases hb:Nat.beq z sz with
  | false=>rw [hb] at h; exact (aB h).elim
  | true =>
   rw [hb] at h
   obtain ⟨_,rfl,rfl⟩:=aG h
   exact ⟨trivial,none'⟩
 ·obtain ⟨_,rfl,rfl⟩:=aG h; exact ⟨trivial,none'⟩
 ·obtain ⟨_,rfl,rfl⟩:=aG h; exact ⟨trivial,none'⟩
 ·obtain ⟨_,rfl,rfl⟩:=aG h; exact ⟨trivial,none'⟩
 ·rename_i g sz len l k i
  have h0:∀ e∈l.drop (i.toNat * sz),Cell e:=fun e he=>ha (.agg l) (by simp) e (List.mem_of_mem_drop he)
  cases hl:cF g sz (l.drop (i.toNat * sz)) with
  | ok v' u' =>
   rw [hl] at h
   obtain ⟨_,rfl,rfl⟩:=aG h
   have hl':(cF g sz (l.drop (i.toNat * sz))).holds v u:=.inl hl
   have h1:=fL hl' h0
   obtain ⟨_,rfl⟩:=cK (lo:=0) (hi:=0) hl' (aU.2 fun d _=>bI d) h0
   exact ⟨h1,none'⟩
  | bad=>rw [hl] at h; exact (aB h).elim
  | ask p v' u'=>rw [hl] at h; exact (aB h).elim
  | chk p v' u'=>rw [hl] at h; exact (aB h).elim
  | alt p v' u' v2 u2=>rw [hl] at h; exact (aB h).elim
 ·rename_i zero parts
  cases hf:fill zero parts args with
  | none=>rw [hf] at h; exact (aB h).elim
  | some l =>
   rw [hf] at h
   obtain ⟨rfl,rfl⟩:=aD h
   simp only [kC,List.all_eq_true] at ho
   exact ⟨aJX (zL hf fun e he=>vP (ho e he)),none'⟩
 ·rename_i sz len zero parts
  cases hf:fill (rep len zero) parts args with
  | none=>rw [hf] at h; exact (aB h).elim
  | some l =>
   rw [hf] at h
   simp only at h
   cases hb:(Nat.beq zero.length sz&&aH l) with
   | false=>rw [hb] at h; exact (aB h).elim
   | true =>
    rw [hb] at h
    obtain ⟨rfl,rfl⟩:=aD h
    exact ⟨trivial,none'⟩
 ·rename_i sz lo' hi' mx t z n g r
  cases hb:Nat.beq z sz with
  | false=>rw [hb] at h; exact (aB h).elim
  | true =>
   rw [hb] at h
   simp only [Bool.not_true,cond_false] at h
   split at h
   ·split at h
    ·split at h
     ·obtain ⟨_,rfl,rfl⟩:=aG h
      exact ⟨trivial,none'⟩
     ·exact (aB h).elim
    ·exact (aB h).elim
   ·exact (aB h).elim
 ·split at h
  ·split at h
   ·obtain ⟨_,rfl,rfl⟩:=aG h
    exact ⟨trivial,none'⟩
   ·exact (aB h).elim
  ·exact (aB h).elim
 ·rename_i sz len np' i off
  split at h
  ·rename_i f cs hi'
   replace h:=(dD h).2
   cases hb:(Nat.ble (off+len * sz) cs.length&&Nat.ble np' i) with
   | false=>rw [hb] at h; exact (aB h).elim
   | true =>
    rw [hb] at h
    obtain ⟨rfl,rfl⟩:=a6 h
    refine ⟨trivial,fun y hy=>?_⟩
    simp only [List.mem_singleton] at hy
    subst hy
    exact eS _
  ·exact (aB h).elim
 ·rename_i sz len np' l
  cases hb:Nat.ble (len * sz) l.length with
  | false=>rw [hb] at h; exact (aB h).elim
  | true =>
   rw [hb] at h
   obtain ⟨rfl,rfl⟩:=aD h
   exact ⟨trivial,none'⟩
 ·obtain ⟨rfl,rfl⟩:=aD h; exact ⟨trivial,none'⟩
 ·obtain ⟨rfl,rfl⟩:=aD h; exact ⟨trivial,none'⟩
 ·rename_i sz bytes t z n g t' z' m g'
  cases hb:Nat.beq z' sz with
  | false=>rw [hb] at h; exact (aB h).elim
  | true =>
   rw [hb] at h
   obtain ⟨h1,h2⟩:=sX h
   exact ⟨h1.flat,by rw [h2]; simp⟩
 ·rename_i sz bytes t z n g b
  cases hb:Nat.beq sz 1 with
  | false=>rw [hb] at h; exact (aB h).elim
  | true =>
   rw [hb] at h
   obtain ⟨h1,h2⟩:=sX h
   exact ⟨h1.flat,by rw [h2]; simp⟩
 ·have h1:=aIU h
  obtain ⟨_,rfl⟩:=r8 (lo:=0) (hi:=0) h
  exact ⟨h1.flat,none'⟩
 ·obtain ⟨rfl,rfl⟩:=aD h; exact ⟨trivial,none'⟩
 ·split at h
  ·obtain ⟨rfl,rfl⟩:=aD h; exact ⟨trivial,none'⟩
  ·exact (aB h).elim
 ·unfold un at h
  split at h
  ·obtain ⟨rfl,rfl⟩:=aD h; exact ⟨trivial,none'⟩
  ·obtain ⟨rfl,rfl⟩:=aD h; exact ⟨trivial,none'⟩
  ·exact (aB h).elim
 ·obtain ⟨rfl,rfl⟩:=aD h; exact ⟨trivial,none'⟩
 ·obtain ⟨rfl,rfl⟩:=aD h; exact ⟨trivial,none'⟩
 ·obtain ⟨_,rfl,rfl⟩:=aT h; exact ⟨trivial,none'⟩
 ·obtain ⟨rfl,rfl⟩:=aD h; exact ⟨trivial,none'⟩
 ·obtain ⟨rfl,rfl⟩:=aD h; exact ⟨trivial,none'⟩
 ·rename_i f np'
  cases hf:freeze np' hp args with
  | none=>rw [hf] at h; exact (aB h).elim
  | some p =>
   obtain ⟨ds,us⟩:=p
   rw [hf] at h
   obtain ⟨rfl,rfl⟩:=a6 h
   exact ⟨trivial,n7 args ds us hf⟩
 ·rename_i i l
  have h1:=ha (.tup l) (by simp)
  cases hb:Nat.blt i l.length with
  | false=>rw [hb] at h; exact (aB h).elim
  | true =>
   rw [hb] at h
   obtain ⟨rfl,rfl⟩:=aD h
   refine ⟨?_,none'⟩
   rcases qY (l:=l) (j:=i) with h2 | h2
   ·have h4:=h1 _ h2
    generalize nth l i .dead=e at h4
    cases e with
    | agg c=>exact fun x hx=>(h4 x hx).1
    | tup c=>exact h4.elim
    | _=>trivial
   ·rw [h2]; trivial
 ·rename_i zero bytes k l k' c
  cases hs:aH zero with
  | false=>rw [hs] at h; exact (aB h).elim
  | true =>
   rw [hs] at h
   cases hrow:Nat.ble 1000000 id with
   | true =>
    rw [hrow] at h
    obtain ⟨_,rfl,rfl⟩:=aT h
    refine ⟨trivial,fun y hy=>?_⟩
    simp only [List.mem_singleton] at hy
    subst hy
    intro e he
    simp only [List.mem_cons,List.not_mem_nil,or_false] at he
    rcases he with rfl | rfl <;> trivial
   | false =>
    rw [hrow] at h
    obtain ⟨_,rfl,rfl⟩:=aT h
    exact ⟨trivial,fun y hy=>by simp at hy⟩
 ·obtain ⟨rfl,rfl⟩:=aD h; exact ⟨trivial,none'⟩
 ·obtain ⟨rfl,rfl⟩:=aD h; exact ⟨trivial,none'⟩
 ·obtain ⟨rfl,rfl⟩:=aD h; exact ⟨trivial,none'⟩
 ·obtain ⟨rfl,rfl⟩:=a6 h; exact ⟨trivial,fun y hy=>by simp at hy⟩
 ·obtain ⟨rfl,rfl⟩:=a6 h
  refine ⟨trivial,fun y hy=>?_⟩
  simp only [List.mem_singleton] at hy
  subst hy
  intro e he
  simp only [List.mem_cons,List.not_mem_nil,or_false] at he
  rcases he with rfl | rfl | rfl <;> trivial
 ·rename_i i
  unfold rN at h
  split at h
  ·rename_i s p hi'
   rcases bP h with ⟨_,rfl,rfl⟩ | ⟨_,rfl,rfl⟩
   ·refine ⟨fun e he=>?_,fun y hy=>?_⟩
    ·simp only [List.mem_cons,List.not_mem_nil,or_false] at he
     rcases he with rfl | rfl | rfl <;> trivial
    ·simp only [List.mem_singleton] at hy
     subst hy
     intro e he
     simp only [List.mem_cons,List.not_mem_nil,or_false] at he
     rcases he with rfl | rfl | rfl <;> trivial
   ·refine ⟨fun e he=>?_,none'⟩
    simp only [List.mem_cons,List.not_mem_nil,or_false] at he
    rcases he with rfl
    trivial
  ·exact (aB h).elim
 ·rename_i va lin
  obtain ⟨rfl,rfl⟩:=a6 h
  refine ⟨trivial,fun y hy=>?_⟩
  simp only [List.mem_singleton] at hy
  subst hy
  intro e he
  simp only [List.mem_cons,List.not_mem_nil,or_false] at he
  rcases he with rfl | rfl
  ·cases va <;> cases lin <;> trivial
  ·trivial
 ·unfold wF at h
  split at h
  ·obtain ⟨rfl,rfl⟩:=aD h; exact ⟨trivial,none'⟩
  ·exact (aB h).elim
 ·unfold wP at h
  split at h
  ·obtain ⟨_,h⟩:=a7 h
   obtain ⟨rfl,rfl⟩:=a6 h
   refine ⟨trivial,fun y hy=>?_⟩
   simp only [List.mem_singleton] at hy
   subst hy
   intro e he
   simp only [List.mem_cons,List.not_mem_nil,or_false] at he
   rcases he with rfl | rfl <;> trivial
  ·obtain ⟨_,h⟩:=a7 h
   split at h
   ·obtain ⟨_,rfl,rfl⟩:=aT h
    refine ⟨trivial,fun y hy=>?_⟩
    simp only [List.mem_singleton] at hy
    subst hy
    intro e he
    simp only [List.mem_cons,List.not_mem_nil,or_false] at he
    rcases he with rfl | rfl <;> trivial
   ·exact (aB h).elim
  ·exact (aB h).elim
 ·rename_i comma va zero i k
  unfold xL at h
  split at h
  ·rename_i va' n ks vs hi'
   obtain ⟨hva,h⟩:=a7 h
   have hva:va'=va:=by cases va' <;> cases va <;> first | rfl | cases hva
   subst hva
   have hz:∀ ok l,FlatS (gR comma va' ok l):=fun ok l=>by
    have e:FlatS (mkv va' (aK l))∧FlatS (.tup [mkv va' (aK l),.bool ok]):=by
     cases va' with
     | true =>
      refine ⟨fun e he=>?_,fun e he=>?_⟩
      ·obtain ⟨x,_,rfl⟩:=fZ he
       exact dE x
      ·simp only [List.mem_cons,List.not_mem_nil,or_false] at he
       rcases he with rfl | rfl
       ·intro x hx
        obtain ⟨y,_,rfl⟩:=fZ hx
        exact ⟨dE y,(bJ y).symm⟩
       ·trivial
     | false =>
      have:mkv false (aK l)=(nth l 0 .dead).pure1:=by
       simp only [mkv,cond_false]
       rw [aS]
      rw [this]
      have hc:=dE (nth l 0 .dead)
      refine ⟨hc.flat,fun e he=>?_⟩
      simp only [List.mem_cons,List.not_mem_nil,or_false] at he
      rcases he with rfl | rfl
      ·generalize (nth l 0 D.dead).pure1=d at hc
       cases d <;> first | trivial | exact hc.elim
      ·trivial
    cases comma with
    | false=>exact e.1
    | true=>exact e.2
   rcases bP h with ⟨_,rfl,rfl⟩ | ⟨_,rfl,rfl⟩
   ·exact ⟨hz _ _,none'⟩
   ·exact ⟨hz _ _,none'⟩
  ·rename_i n ks vs hi'
   obtain ⟨hb,h⟩:=a7 h
   have hm:∀ y∈[(i,false,[D.str k,.mp true n ks vs])],∀ e∈y.2.2,Cell e:=fun y hy=>by
    simp only [List.mem_singleton] at hy
    subst hy
    intro e he
    simp only [List.mem_cons,List.not_mem_nil,or_false] at he
    rcases he with rfl | rfl <;> trivial
   rcases bP h with ⟨_,rfl,rfl⟩ | ⟨_,rfl,rfl⟩
   ·refine ⟨fun e he=>?_,hm⟩
    rcases rR he with ⟨q,z,m,g,h2,rfl⟩ | ⟨x,rfl⟩
    ·trivial
    ·exact dE x
   ·refine ⟨fun e he=>?_,hm⟩
    simp only [kC,Bool.and_eq_true,List.all_eq_true] at ho
    exact vP (ho.1 e he)
  ·exact (aB h).elim
 ·obtain ⟨rfl,rfl⟩:=aD h; exact ⟨trivial,none'⟩
 ·obtain ⟨rfl,rfl⟩:=aD h; exact ⟨trivial,none'⟩
 ·obtain ⟨rfl,rfl⟩:=aD h; exact ⟨trivial,none'⟩
 ·rcases bP h with ⟨_,rfl,rfl⟩ | ⟨_,rfl,rfl⟩
  ·exact ⟨trivial,none'⟩
  ·exact ⟨trivial,none'⟩
 ·obtain ⟨rfl,rfl⟩:=aD h; exact ⟨trivial,none'⟩
 ·obtain ⟨_,h⟩:=dD h
  obtain ⟨_,rfl,rfl⟩:=aG h
  exact ⟨trivial,none'⟩
 ·obtain ⟨rfl,rfl⟩:=aD h; exact ⟨trivial,none'⟩
 ·obtain ⟨rfl,rfl⟩:=aD h; exact ⟨trivial,none'⟩
 ·unfold qU at h
  split at h
  ·obtain ⟨_,h⟩:=a7 h
   obtain ⟨_,h⟩:=lI h
   have hc:∀ (l:List D) (n:Nat),∀ e∈(aK l).drop n,Cell e:=fun l n e he=>eS l e (List.mem_of_mem_drop he)
   have e1:=fL h (hc _ _)
   obtain ⟨_,rfl⟩:=cK (lo:=0) (hi:=0) h (aU.2 fun d _=>bI d) (hc _ _)
   exact ⟨e1,none'⟩
  ·exact (aB h).elim
 ·unfold nG at h
  split at h
  ·obtain ⟨_,h⟩:=a7 h
   obtain ⟨_,rfl,rfl⟩:=aT h
   refine ⟨trivial,fun y hy e he=>?_⟩
   simp only [List.mem_singleton] at hy
   subst hy
   simp only [List.mem_cons,List.not_mem_nil,or_false] at he
   rcases he with rfl | rfl <;> trivial
  ·exact (aB h).elim
 ·obtain ⟨_,h⟩:=dD h
  unfold sL at h
  split at h
  ·obtain ⟨_,h⟩:=a7 h
   obtain ⟨_,rfl,rfl⟩:=aT h
   refine ⟨trivial,fun y hy e he=>?_⟩
   simp only [List.mem_singleton] at hy
   subst hy
   simp only [List.mem_cons,List.not_mem_nil,or_false] at he
   rcases he with rfl | rfl <;> trivial
  ·exact (aB h).elim
 ·exact aGX h
end
def gw (gd:D) (w:Bool):Option Bool :=
 match gd with
 | .bool b=>some (b==w)
 | .tup []=>some false
 | _=>none
def jP (E:Env) (o:AO) (hp:Nat→Option (Bool×List D)) (tk:Nat→Option (Nat×Nat)) (args:List D) (gd:D) (k:D→Upd→Prop):Prop :=
 match o.guard with
 | none=>step E o.op o.id hp tk args k
 | some (_,w)=>match gw gd w with
  | some true=>step E o.op o.id hp tk args k
  | some false=>k (.tup []) Upd.none
  | none=>False
def s8 (o:AO) (fr:List D):D:=match o.guard with
 | none=>.dead
 | some (j,_)=>nth fr j .dead
def f0 (E:Env):Prop:=∀ j C,ag E j=some C→(∀ ds bs K K',(∀ rs bs',K rs bs'→K' rs bs')→C ds bs K→C ds bs K')∧∀ ds bs K,C ds bs K→∃ rs bs',K rs bs'
section
variable {E:Env} {o p q:AO} {hp hp':Nat→Option (Bool×List D)} {tk tk':Nat→Option (Nat×Nat)} {args:List D} {k k':D→Upd→Prop} {s:St} {lo hi:Nat}
theorem aI4 {l:List D} {j:Nat} {d:D} (h:nth l j .dead=d) (hd:d≠.dead):upd l j d=l:=by
 induction l generalizing j with
 | nil=>rfl
 | cons a l ih=>cases j with
  | zero=>simp only [nth] at h; subst h; rfl
  | succ j=>simp only [nth] at h; simp only [upd,ih h]
theorem aBU:∀ (l:List D) (i:Nat) (d:D) (k:List D→Prop),aJ4 l i d k=k (upd l i d)
 | [],_,_,_=>rfl
 | _::_,0,_,_=>rfl
 | a::l,i+1,d,k=>aBU l i d fun l'=>k (a::l')
theorem aK6 (dst:Option Nat) (v:D) (fr:List D) (k:List D→Prop):aJ0 dst v fr k=k (fI dst v fr):=by
 cases dst with
 | none=>rfl
 | some d=>exact aBU fr d v k
theorem hG (E:Env) (o:AO) (s:St) (k:St→Prop):gOp E o s k↔jP E o s.hp s.tk (evs s.fr o.args) (s8 o s.fr) (fun v u=>k (s.next o.dst v u)):=by
 unfold gOp jP s8 aK3
 simp only [aK6,aBU]
 cases hg:o.guard with
 | none=>exact Iff.rfl
 | some jw =>
  obtain ⟨j,w⟩:=jw
  simp only
  cases hd:nth s.fr j .dead with
  | bool b =>
   simp only
   have hs:upd s.fr j (.bool b)=s.fr:=aI4 hd (by simp)
   cases b <;> cases w <;> simp only [Br,hs,gw] <;> exact Iff.rfl
  | tup l=>cases l <;> exact Iff.rfl
  | _=>exact Iff.rfl
theorem aEV {C:aO} (hC:∀ ds bs K K',(∀ rs bs',K rs bs'→K' rs bs')→C ds bs K→C ds bs K') {id:Nat} {vs:List D} (h:∀ v u,k v u→k' v u) (hk:fO C id vs hp k):fO C id vs hp k':=by
 unfold fO at hk ⊢
 cases hb:cQ hp (ptrs vs) with
 | none=>rw [hb] at hk; exact hk.elim
 | some bs =>
  rw [hb] at hk
  simp only at hk ⊢
  cases hd:dO (ptrs vs) with
  | false=>rw [hd] at hk; exact hk.elim
  | true =>
   rw [hd] at hk
   obtain ⟨h1,h2⟩:=(nY vs bs _).1 hk
   exact (nY vs bs _).2 ⟨h1,hC _ _ _ _ (fun rs bs' hh=>by
    obtain ⟨v,u,h1,h2⟩:=cY hh
    exact gO h1 (h v u h2)) h2⟩
theorem zZ {o:Out} (h:∀ v u,k v u→k' v u) (hk:o.then k):o.then k':=by
 obtain ⟨v,u,h1,h2⟩:=cY hk
 exact gO h1 (h v u h2)
def callee (E:Env) (id:Nat) (op:AOp) (args:List D):Option (aO×List D×Bool) :=
 match op with
 | .call p f=>(agc E id f).map fun C=>(C,args,p)
 | .callv p=>match args with
  | .fn f cap::r=>(ag E f).map fun C=>(C,r++cap,p)
  | _=>none
 | _=>none
theorem aE9 (p b:Bool) (X:Prop):(bif p then X else Br b X False)↔((p=true∨b=true)∧X):=by
 cases p <;> cases b <;> simp [Br]
theorem jO {op:AOp} (hc:dY op=true) (id:Nat):step E op id hp tk args k↔∃ C vs p,callee E id op args=some (C,vs,p)∧(p=true∨qX vs=true)∧fO C id vs hp k:=by
 rw [gJ]
 cases op <;> first | cases hc | skip
 ·rename_i p f
  simp only [callee]
  cases hE:agc E id f with
  | none=>simp
  | some C =>
   simp only [Option.map_some,Option.some.injEq,Prod.mk.injEq]
   rw [aE9]
   constructor
   ·exact fun h=>⟨C,args,p,⟨rfl,rfl,rfl⟩,h⟩
   ·rintro ⟨_,_,_,⟨rfl,rfl,rfl⟩,h⟩
    exact h
 ·rename_i p
  simp only [callee]
  split
  ·rename_i f cap r
   cases hE:ag E f with
   | none =>
    constructor
    ·exact fun h=>h.elim
    ·rintro ⟨_,_,_,h,_⟩
     simp [hE] at h
   | some C =>
    constructor
    ·exact fun h=>⟨C,r++cap,p,by simp [hE],(aE9 _ _ _).1 h⟩
    ·rintro ⟨_,_,_,h,h2⟩
     simp only [hE,Option.map_some,Option.some.injEq,Prod.mk.injEq] at h
     obtain ⟨rfl,rfl,rfl⟩:=h
     exact (aE9 _ _ _).2 h2
  ·simp
theorem gE {op:AOp} (hc:dY op=false) (hn:i6 op=false) (id:Nat):step E op id hp tk args k↔(aP op id hp tk args).then k:=by
 rw [gJ]
 cases op <;> first | exact Iff.rfl | (cases hc; done) | (cases hn; done)
theorem sG {op:AOp} (h:i6 op=true):op=.mapNext:=by cases op <;> first | rfl | cases h
theorem kT (id:Nat):step E .mapNext id hp tk args k↔∃ i,args=[.ptr i 0]∧nU i hp (hp i) k:=by
 rw [gJ]
 simp only
 constructor
 ·intro h
  split at h
  ·exact ⟨_,rfl,h⟩
  ·exact h.elim
 ·rintro ⟨i,rfl,h⟩
  exact h
theorem zV {it:Nat} (h:∀ v u,aDS it hp v u→k v u→k' v u) (hk:nU it hp (hp it) k):nU it hp (hp it) k':=by
 cases hit:hp it with
 | none=>rw [hit] at hk; exact hk.elim
 | some e =>
  rw [hit] at hk
  unfold nU at hk ⊢
  split at hk
  ·rename_i i j b c s q heq
   cases heq
   split at hk
   ·rename_i m c' va nl n ks vs hi
    obtain ⟨rfl,hj,h1,h2⟩:=hk
    refine ⟨rfl,hj,fun hc=>h _ _ (.inl ⟨rfl,rfl⟩) (h1 hc),fun hb x hx hs=>h _ _ ?_ (h2 hb x hx hs)⟩
    subst hb
    exact .inr ⟨i,j,c',s,q,x,m,va,nl,n,ks,vs,hit,hi,rfl,rfl⟩
   ·exact hk.elim
  ·exact hk.elim
theorem aG9 {it:Nat} {e:Option (Bool×List D)} (hk:nU it hp e k):∃ v u,k v u:=by
 unfold nU at hk
 split at hk
 ·rename_i i j b c s q
  split at hk
  ·rename_i m c' va nl n ks vs hi
   obtain ⟨_,_,h1,h2⟩:=hk
   by_cases hall:b=true∨∀ x,x < n j→s x=true
   ·exact ⟨_,_,h1 hall⟩
   ·have hb:b=false:=by cases b <;> simp_all
    have:∃ x,x < n j∧s x=false:=Classical.byContradiction fun hno=>hall (.inr fun x hx=>by
     cases hs:s x with
     | true=>rfl
     | false=>exact absurd ⟨x,hx,hs⟩ hno)
    obtain ⟨x,hx,hs⟩:=this
    exact ⟨_,_,h2 hb x hx hs⟩
  ·exact hk.elim
 ·exact hk.elim
theorem sI {op:AOp} {C:aO} {vs:List D} {p:Bool} {id:Nat} (h:callee E id op args=some (C,vs,p)):∃ j,ag E j=some C:=by
 unfold callee at h
 split at h
 ·rw [Option.map_eq_some_iff] at h
  obtain ⟨C',h1,h2⟩:=h
  cases h2
  exact aMF h1
 ·split at h
  ·rw [Option.map_eq_some_iff] at h
   obtain ⟨C',h1,h2⟩:=h
   cases h2
   exact ⟨_,h1⟩
  ·cases h
 ·cases h
theorem zO (hE:f0 E) {op:AOp} {id:Nat} (h:∀ v u,k v u→k' v u) (hk:step E op id hp tk args k):step E op id hp tk args k':=by
 cases hc:dY op with
 | true =>
  obtain ⟨C,vs,p,h1,h2,h3⟩:=(jO hc id).1 hk
  obtain ⟨j,hj⟩:=sI h1
  exact (jO hc id).2 ⟨C,vs,p,h1,h2,aEV (hE j C hj).1 h h3⟩
 | false =>
  cases hn:i6 op with
  | false=>exact (gE hc hn id).2 (zZ h ((gE hc hn id).1 hk))
  | true =>
   have:=sG hn
   subst this
   obtain ⟨i,hi,h1⟩:=(kT id).1 hk
   exact (kT id).2 ⟨i,hi,zV (fun v u _=>h v u) h1⟩
theorem pE {C:aO} {id:Nat} {vs:List D}:fO C id vs hp k↔∃ bs,cQ hp (ptrs vs)=some bs∧dO (ptrs vs)=true∧o6 vs bs True∧C (mW vs 0) bs (fun rs bs'=>(gX id (ptrs vs) hp bs rs bs').then k):=by
 have hBr:∀ (b:Bool) (X:Prop),Br b X False↔(b=true∧X):=fun b X=>by cases b <;> simp [Br]
 unfold fO
 cases hb:cQ hp (ptrs vs) with
 | none=>simp
 | some bs =>
  simp only [hBr]
  rw [nY]
  constructor
  ·rintro ⟨h1,h2,h3⟩
   exact ⟨bs,rfl,h1,h2,h3⟩
  ·rintro ⟨_,h,h1,h2,h3⟩
   cases h
   exact ⟨h1,h2,h3⟩
theorem zB (hE:f0 E) {op:AOp} {id:Nat} (hk:step E op id hp tk args k):∃ v u,k v u:=by
 cases hc:dY op with
 | true =>
  obtain ⟨C,vs,p,h1,h2,h3⟩:=(jO hc id).1 hk
  obtain ⟨j,hj⟩:=sI h1
  obtain ⟨bs,_,_,_,h6⟩:=pE.1 h3
  obtain ⟨rs,bs',h7⟩:=(hE j C hj).2 _ _ _ h6
  obtain ⟨v,u,_,h8⟩:=cY h7
  exact ⟨v,u,h8⟩
 | false =>
  cases hn:i6 op with
  | false =>
   obtain ⟨v,u,_,h2⟩:=cY ((gE hc hn id).1 hk)
   exact ⟨v,u,h2⟩
  | true =>
   have:=sG hn
   subst this
   obtain ⟨i,_,h1⟩:=(kT id).1 hk
   exact aG9 h1
theorem fX (hE:f0 E) {gd:D} (h:∀ v u,k v u→k' v u) (hk:jP E o hp tk args gd k):jP E o hp tk args gd k':=by
 unfold jP at hk ⊢
 cases hg:o.guard with
 | none=>rw [hg] at hk; exact zO hE h hk
 | some jw =>
  obtain ⟨j,w⟩:=jw
  rw [hg] at hk
  simp only at hk ⊢
  cases hb:gw gd w with
  | none=>rw [hb] at hk; exact hk.elim
  | some b =>
   rw [hb] at hk
   cases b with
   | true=>exact zO hE h hk
   | false=>exact h _ _ hk
theorem zT (hE:f0 E) {gd:D} (hk:jP E o hp tk args gd k):∃ v u,k v u:=by
 unfold jP at hk
 split at hk
 ·exact zB hE hk
 ·split at hk
  ·exact zB hE hk
  ·exact ⟨_,_,hk⟩
  ·exact hk.elim
theorem pV:∀ {l:List D},qX l=true→ptrs l=[]
 | [],_=>rfl
 | d::l,h=>by
  cases d <;> first | cases h | exact pV (l:=l) h
structure Keys (op:AOp) (id:Nat) (tk:Nat→Option (Nat×Nat)) (u:Upd):Prop where
 q:sY op=true→u=Upd.none
 h:kE op id=false→∀ x∈u.h,id≤x.1∧x.1 < id+bE op
 t:∀ x∈u.t,(id≤x.1∧x.1 < id+bE op)∨((jB op=true∨kE op id=true)∧tk x.1≠none)
theorem Keys.none {op:AOp} {id:Nat}:Keys op id tk Upd.none:=⟨fun _=>rfl,fun _ x hx=>by simp [Upd.none] at hx,fun x hx=>by simp [Upd.none] at hx⟩
theorem iN {g:Bool} {n:Nat} {l:List D} {v:D} {u:Upd} (h:(cF g n l).holds v u):u=Upd.none:=by
 unfold cF at h
 cases hb:Nat.ble n l.length with
 | false=>rw [hb] at h; exact (aB h).elim
 | true=>rw [hb] at h; exact (aD h).2
theorem aKS {op:BinOp} {x y v:D} {u:Upd} (h:(bin op x y).holds v u):u=Upd.none:=(r8 (lo:=0) (hi:=0) h).2
theorem sT {sz bytes id:Nat} {t:Tag} {z n:Nat} {g:Nat→List D} {m:Nat} {k:Nat→List D} {v:D} {u:Upd} (h:(dL id sz bytes tk t z n g m k).holds v u):Keys (.append sz bytes) id tk u:=by
 unfold dL at h
 cases hb:Nat.beq z sz with
 | false=>rw [hb] at h; exact (aB h).elim
 | true =>
  rw [hb] at h
  simp only [Bool.not_true,cond_false] at h
  split at h
  ·rename_i i
   split at h
   ·rename_i z' n' hi'
    cases hb2:Nat.beq z' sz with
    | false=>rw [hb2] at h; exact (aB h).elim
    | true =>
     rw [hb2] at h
     obtain ⟨_,rfl,rfl⟩:=aT h
     refine ⟨fun h=>(by cases h),fun _ x hx=>by simp at hx,fun x hx=>?_⟩
     simp only [List.mem_singleton] at hx
     subst hx
     exact .inr ⟨.inl rfl,by simp [hi']⟩
   ·exact (aB h).elim
  ·obtain ⟨_,rfl,rfl⟩:=aT h
   refine ⟨fun h=>(by cases h),fun _ x hx=>by simp at hx,fun x hx=>?_⟩
   simp only [List.mem_singleton] at hx
   subst hx
   exact .inl (by simp [bE])
  ·exact (aB h).elim
theorem aHP {op:AOp} {id:Nat} {v:D} {u:Upd} (hh:(kO op id hp args).holds v u):Keys op id tk u:=by
 have N:∀ {u:Upd},u=Upd.none→Keys op id tk u:=fun h=>h ▸ Keys.none
 unfold kO at hh
 split at hh
 ·unfold aJQ at hh
  split at hh
  ·exact N (aG hh).2.2
  ·exact (aB hh).elim
 ·unfold aKI at hh
  split at hh
  ·obtain ⟨_,hh⟩:=a7 hh
   obtain ⟨_,rfl,rfl⟩:=aG hh
   exact ⟨fun h=>(by cases h),fun h=>(by cases h),fun x hx=>by simp at hx⟩
  ·exact (aB hh).elim
 ·unfold aKF at hh
  split at hh
  ·obtain ⟨_,hh⟩:=a7 hh
   rcases bP hh with ⟨_,rfl,rfl⟩ | ⟨_,rfl,rfl⟩
   ·exact Keys.none
   ·exact Keys.none
  ·exact (aB hh).elim
 ·unfold aH8 at hh
  split at hh
  ·obtain ⟨_,rfl,rfl⟩:=aG hh
   exact ⟨fun h=>(by cases h),fun h=>(by cases h),fun x hx=>by simp at hx⟩
  ·exact (aB hh).elim
 ·unfold aEG at hh
  split at hh
  ·obtain ⟨_,rfl,rfl⟩:=aG hh
   refine ⟨fun h=>(by cases h),fun _ x hx=>?_,fun x hx=>by simp at hx⟩
   simp only [List.mem_singleton] at hx
   subst hx
   simp [bE]
  ·exact (aB hh).elim
 ·unfold vK at hh
  split at hh
  ·split at hh
   ·exact N (aT hh).2.2
   ·exact (aB hh).elim
  ·exact (aB hh).elim
 ·exact N (aD hh).2
 ·exact N (aD hh).2
 ·exact N (aD hh).2
 ·rename_i g z len k off m nl kd i
  have hh:(bif !(!(g || !(Nat.beq z 1))) then Out.bad else Out.chk (decide (0≤i)&&decide (i < len)&&Nat.ble len m) (.oref k (off+i.toNat) (nl (off+i.toNat))) Upd.none).holds v u:=by rw [Bool.not_not]; exact hh
  obtain ⟨_,hh⟩:=dD hh
  exact N (aG hh).2.2
 ·split at hh
  ·split at hh
   ·split at hh
    ·exact N (aG hh).2.2
    ·exact (aB hh).elim
   ·exact (aB hh).elim
  ·exact (aB hh).elim
 ·exact N (aD hh).2
 ·obtain ⟨_,hh⟩:=a7 hh
  exact N (aG hh).2.2
 ·exact (aB hh).elim
theorem aIB {op:AOp} {id:Nat} {v:D} {u:Upd} (hh:(aP op id hp tk args).holds v u):Keys op id tk u:=by
 have N:∀ {u:Upd},u=Upd.none→Keys op id tk u:=fun h=>h ▸ Keys.none
 unfold aP at hh
 split at hh
 all_goals (try (exact (aB hh).elim))
 all_goals (try (exact N (aD hh).2))
 all_goals (try (exact N (aG hh).2.2))
 all_goals (try (exact N (aT hh).2.2))
 all_goals (try (exact N (iN hh)))
 all_goals (try (exact N (aKS hh)))
 ·rename_i cells
  cases hs:aH cells with
  | false=>rw [hs] at hh; exact (aB hh).elim
  | true =>
   rw [hs] at hh
   obtain ⟨rfl,rfl⟩:=a6 hh
   refine ⟨fun h=>(by cases h),fun _ x hx=>?_,fun x hx=>.inl ?_⟩
   ·simp only [List.mem_singleton] at hx
    subst hx
    simp only [bE]
    omega
   ·have h1:=gT _ _ _ hx
    have h2:=l5 _ _ _ hx
    simp only [bE]
    omega
 ·rename_i x
  cases hs:aH x.cells with
  | false=>rw [hs] at hh; exact (aB hh).elim
  | true =>
   rw [hs] at hh
   obtain ⟨rfl,rfl⟩:=a6 hh
   refine ⟨fun h=>(by cases h),fun _ x hx=>?_,fun x hx=>by simp at hx⟩
   simp only [List.mem_singleton] at hx
   subst hx
   simp [bE]
 ·split at hh
  ·rename_i f cs _
   cases hfs:(f || aH cs) with
   | false=>rw [hfs] at hh; exact N (rF hh).2
   | true=>rw [hfs] at hh; exact N (iN hh)
  ·exact (aB hh).elim
 ·rename_i n i off x
  split at hh
  ·rename_i cs hi'
   cases hsol:aH cs with
   | false =>
    rw [hsol] at hh
    exact ⟨fun h=>(by cases h),fun h=>(by cases h),by rw [(nL (lo:=0) (hi:=0) hh (by omega) (by cases x <;> first | rfl | exact bI _ | exact kV _)).2.2]; simp⟩
   | true =>
   rw [hsol] at hh
   simp only [Bool.not_true,cond_false] at hh
   cases hb:(aH x.cells&&Nat.beq x.cells.length n&&Nat.ble (off+n) cs.length) with
   | false=>rw [hb] at hh; exact (aB hh).elim
   | true =>
    rw [hb] at hh
    obtain ⟨rfl,rfl⟩:=a6 hh
    exact ⟨fun h=>(by cases h),fun h=>(by cases h),fun x hx=>by simp at hx⟩
  ·exact (aB hh).elim
 ·rename_i sz t z n g k i
  cases hb:Nat.beq z sz with
  | false=>rw [hb] at hh; exact (aB hh).elim
  | true=>rw [hb] at hh; exact N (aG hh).2.2
 ·rename_i g sz len l k i
  cases hl:cF g sz (l.drop (i.toNat * sz)) with
  | ok v' u' =>
   rw [hl] at hh
   obtain ⟨_,rfl,rfl⟩:=aG hh
   exact N (iN (v:=v) (.inl hl))
  | bad=>rw [hl] at hh; exact (aB hh).elim
  | ask p v' u'=>rw [hl] at hh; exact (aB hh).elim
  | chk p v' u'=>rw [hl] at hh; exact (aB hh).elim
  | alt p v' u' v2 u2=>rw [hl] at hh; exact (aB hh).elim
 ·split at hh
  ·exact N (aD hh).2
  ·exact (aB hh).elim
 ·rename_i sz len zero parts
  split at hh
  ·rename_i l hl
   cases hb:(Nat.beq zero.length sz&&aH l) with
   | false=>rw [hb] at hh; exact (aB hh).elim
   | true=>rw [hb] at hh; exact N (aD hh).2
  ·exact (aB hh).elim
 ·rename_i sz lo' hi' mx t z n g r
  cases hb:Nat.beq z sz with
  | false=>rw [hb] at hh; exact (aB hh).elim
  | true =>
   rw [hb] at hh
   simp only [Bool.not_true,cond_false] at hh
   split at hh
   ·split at hh
    ·split at hh
     ·exact N (aG hh).2.2
     ·exact (aB hh).elim
    ·exact (aB hh).elim
   ·exact (aB hh).elim
 ·split at hh
  ·split at hh
   ·exact N (aG hh).2.2
   ·exact (aB hh).elim
  ·exact (aB hh).elim
 ·rename_i sz len np' i off
  split at hh
  ·rename_i f cs hi'
   replace hh:=(dD hh).2
   cases hb:(Nat.ble (off+len * sz) cs.length&&Nat.ble np' i) with
   | false=>rw [hb] at hh; exact (aB hh).elim
   | true =>
    rw [hb] at hh
    obtain ⟨rfl,rfl⟩:=a6 hh
    exact ⟨fun h=>(by cases h),fun h=>(by cases h),fun x hx=>by simp at hx⟩
  ·exact (aB hh).elim
 ·rename_i sz len np' l
  cases hb:Nat.ble (len * sz) l.length with
  | false=>rw [hb] at hh; exact (aB hh).elim
  | true=>rw [hb] at hh; exact N (aD hh).2
 ·rename_i sz bytes t z n g t' z' m g'
  cases hb:Nat.beq z' sz with
  | false=>rw [hb] at hh; exact (aB hh).elim
  | true=>rw [hb] at hh; exact sT hh
 ·rename_i sz bytes t z n g b
  cases hb:Nat.beq sz 1 with
  | false=>rw [hb] at hh; exact (aB hh).elim
  | true=>rw [hb] at hh; exact sT hh
 ·split at hh
  ·exact N (aD hh).2
  ·exact (aB hh).elim
 ·unfold un at hh
  split at hh
  ·exact N (aD hh).2
  ·exact N (aD hh).2
  ·exact (aB hh).elim
 ·rename_i f np'
  split at hh
  ·obtain ⟨rfl,rfl⟩:=a6 hh
   exact ⟨fun h=>(by cases h),fun h=>(by cases h),fun x hx=>by simp at hx⟩
  ·exact (aB hh).elim
 ·rename_i i l
  cases hb:Nat.blt i l.length with
  | false=>rw [hb] at hh; exact (aB hh).elim
  | true=>rw [hb] at hh; exact N (aD hh).2
 ·rename_i zero bytes k l k' c
  cases hs:aH zero with
  | false=>rw [hs] at hh; exact (aB hh).elim
  | true =>
   rw [hs] at hh
   cases hrow:Nat.ble 1000000 id with
   | true =>
    rw [hrow] at hh
    obtain ⟨_,rfl,rfl⟩:=aT hh
    refine ⟨fun h=>(by cases h),fun _ x hx=>?_,fun x hx=>by simp at hx⟩
    simp only [List.mem_singleton] at hx
    subst hx
    simp [bE]
   | false =>
    rw [hrow] at hh
    obtain ⟨_,rfl,rfl⟩:=aT hh
    refine ⟨fun h=>(by cases h),fun _ x hx=>by simp at hx,fun x hx=>.inl ?_⟩
    simp only [List.mem_singleton] at hx
    subst hx
    simp [bE]
 ·obtain ⟨rfl,rfl⟩:=a6 hh
  refine ⟨fun h=>(by cases h),fun _ x hx=>by simp at hx,fun x hx=>.inl ?_⟩
  simp only [List.mem_singleton] at hx
  subst hx
  simp [bE]
 ·obtain ⟨rfl,rfl⟩:=a6 hh
  refine ⟨fun h=>(by cases h),fun _ x hx=>?_,fun x hx=>by simp at hx⟩
  simp only [List.mem_singleton] at hx
  subst hx
  simp [bE]
 ·unfold rN at hh
  split at hh
  ·rcases bP hh with ⟨_,rfl,rfl⟩ | ⟨_,rfl,rfl⟩
   ·exact ⟨fun h=>(by cases h),fun h=>(by cases h),fun x hx=>by simp at hx⟩
   ·exact N rfl
  ·exact (aB hh).elim
 ·obtain ⟨rfl,rfl⟩:=a6 hh
  refine ⟨fun h=>(by cases h),fun _ x hx=>?_,fun x hx=>by simp at hx⟩
  simp only [List.mem_singleton] at hx
  subst hx
  simp [bE]
 ·unfold wF at hh
  split at hh
  ·exact N (aD hh).2
  ·exact (aB hh).elim
 ·unfold wP at hh
  split at hh
  ·obtain ⟨_,hh⟩:=a7 hh
   obtain ⟨rfl,rfl⟩:=a6 hh
   exact ⟨fun h=>(by cases h),fun h=>(by cases h),fun x hx=>by simp at hx⟩
  ·obtain ⟨_,hh⟩:=a7 hh
   split at hh
   ·rename_i u0 p hput
    obtain ⟨_,rfl,rfl⟩:=aT hh
    refine ⟨fun h=>(by cases h),fun h=>(by cases h),fun x hx=>.inr ⟨.inr rfl,?_⟩⟩
    obtain ⟨e,he⟩:=rL hput x hx
    rw [he]
    exact fun h=>by cases h
   ·exact (aB hh).elim
  ·exact (aB hh).elim
 ·unfold xL at hh
  split at hh
  ·obtain ⟨_,hh⟩:=a7 hh
   rcases bP hh with ⟨_,rfl,rfl⟩ | ⟨_,rfl,rfl⟩
   ·exact N rfl
   ·exact N rfl
  ·obtain ⟨hb,hh2⟩:=a7 hh
   simp only [Bool.and_eq_true,Bool.not_eq_true'] at hb
   obtain ⟨⟨⟨⟨hva,_⟩,hsl⟩,hlen⟩,_⟩:=hb
   have hlen:=Nat.eq_of_beq_eq_true hlen
   subst hva
   rcases bP hh2 with ⟨_,rfl,rfl⟩ | ⟨_,rfl,rfl⟩
   ·refine ⟨fun h=>(by cases h),fun h=>absurd h (by simp [kE,aBZ,hsl]),fun x hx=>.inl ?_⟩
    have:=sC hx
    simp only [bE]
    omega
   ·exact ⟨fun h=>(by cases h),fun h=>absurd h (by simp [kE,aBZ,hsl]),fun x hx=>by simp at hx⟩
  ·exact (aB hh).elim
 ·rcases bP hh with ⟨_,rfl,rfl⟩ | ⟨_,rfl,rfl⟩
  ·exact N rfl
  ·exact N rfl
 ·obtain ⟨_,hh⟩:=dD hh
  exact N (aG hh).2.2
 ·unfold qU at hh
  split at hh
  ·obtain ⟨_,hh⟩:=a7 hh
   obtain ⟨_,hh⟩:=lI hh
   exact N (iN hh)
  ·exact (aB hh).elim
 ·unfold nG at hh
  split at hh
  ·obtain ⟨_,hh⟩:=a7 hh
   obtain ⟨_,rfl,rfl⟩:=aT hh
   exact ⟨fun h=>(by cases h),fun h=>(by cases h),fun x hx=>by simp at hx⟩
  ·exact (aB hh).elim
 ·obtain ⟨hc,hh⟩:=dD hh
  obtain ⟨hc,_⟩:=eN hc
  obtain ⟨hc,_⟩:=eN hc
  unfold sL at hh
  split at hh
  ·obtain ⟨_,hh⟩:=a7 hh
   obtain ⟨_,rfl,rfl⟩:=aT hh
   refine ⟨fun h=>(by cases h),fun h=>?_,fun x hx=>by simp at hx⟩
   have:Nat.ble 1000000 id=false:=h
   rw [hc] at this
   cases this
  ·exact (aB hh).elim
 ·exact aHP hh
end
section
variable {E:Env} {o p q:AO} {hp hp':Nat→Option (Bool×List D)} {tk tk':Nat→Option (Nat×Nat)} {args:List D} {k k':D→Upd→Prop} {s:St} {lo hi:Nat}
theorem Tidy.dead (h:Tidy lo hi s) (dst:Option Nat):Tidy lo hi (s.next dst (.tup []) Upd.none) :=
 h.after (v:=.tup []) ⟨rfl,fun e he=>by cases he⟩ (fun x hx=>by simp [Upd.none] at hx) (fun x hx=>by simp [Upd.none] at hx) dst
theorem aI3 (d:D) (i:Nat):FlatS (d.res.own i)∧(match d.res.own i with | .agg c=>∀ x∈c,Cell x∧x=x.pure1 | .tup _=>False | _=>True):=by
 cases d with
 | slice t z n g=>cases t <;> exact ⟨trivial,trivial⟩
 | agg c =>
  refine ⟨eS c,fun x hx=>⟨eS c x hx,?_⟩⟩
  obtain ⟨y,_,rfl⟩:=fZ hx
  exact (bJ y).symm
 | _=>exact ⟨trivial,trivial⟩
theorem aHG (rs:List D) (id:Nat):FlatS (mE (cN (aZ rs) id)):=by
 have hnth:∀ j,FlatS (nth (cN (aZ rs) id) j .dead)∧(match nth (cN (aZ rs) id) j .dead with | .agg c=>∀ x∈c,Cell x∧x=x.pure1 | .tup _=>False | _=>True):=fun j=>by
  rw [oO,gY]
  exact aI3 _ _
 generalize cN (aZ rs) id=l at hnth
 match l with
 | []=>intro e he; cases he
 | [d]=>exact (hnth 0).1
 | d::d'::l =>
  show FlatS (.tup (d::d'::l))
  intro e he
  obtain ⟨j,hj,rfl⟩:=List.mem_iff_getElem.1 he
  have:=(hnth j).2
  rw [dN _ _ hj] at this
  exact this
theorem pU (k:Nat) (f:Bool) (cs:List D):∀ e∈rD k (eU f cs),Cell e:=by
 rcases bM f cs with ⟨_,z,n,g,rfl,e⟩ | ⟨_,_,_,_,_,_,_,rfl,e⟩ | ⟨_,_,e⟩
 ·rw [e,b7 rfl]
  intro x hx
  simp only [List.mem_cons,List.not_mem_nil,or_false] at hx
  rcases hx with rfl | rfl <;> trivial
 ·rw [e]
  intro x hx
  simp only [rD,List.mem_cons,List.not_mem_nil,or_false] at hx
  rcases hx with rfl | rfl <;> trivial
 ·rw [e,b7 (bL (bO _))]
  exact eS _
theorem aHS (h:Tidy lo hi s) {id:Nat} {ids:List Nat} {bs bs':List (List D)} (hb:cQ s.hp ids=some bs) {rs:List D} (h4:rs.length≤4) (hid:id+4≤lo∨hi≤id) (dst:Option Nat) :
  Tidy lo hi (s.next dst (mE (cN (aZ rs) id)) ⟨aY s.hp ids bs',aW (aZ rs) id⟩):=by
 have hc:=vM h.clean hb (bs':=bs') h4 hid dst
 refine ⟨fun d hd=>?_,fun i f cs hx=>?_,hc.tk⟩
 ·obtain ⟨j,hj,rfl⟩:=List.mem_iff_getElem.1 hd
  have h1:=hc.fr j hj
  rw [dN _ _ hj] at h1
  refine ⟨h1,?_⟩
  rcases lS hd with h2 | h2
  ·rw [h2]; exact aHG rs id
  ·exact (h.fr _ h2).2
 ·refine ⟨(hc.hp i f cs hx).1,(hc.hp i f cs hx).2,?_⟩
  rcases kG hx with h1 | h1
  ·exact (h.hp i f cs h1).2.2
  ·obtain ⟨_,f,c,kk,h3⟩:=lC h1
   simp only at h3
   rw [h3]
   exact pU kk f c
theorem yC (h:Tidy lo hi s) {id:Nat} {ids:List Nat} {bs bs':List (List D)} (hb:cQ s.hp ids=some bs) {l:List D} (hid:id+4≤lo∨hi≤id) (dst:Option Nat) :
  Tidy lo hi (s.next dst (.ptr id 0) ⟨aY s.hp ids bs'++[(id,false,aK l)],[]⟩):=by
 have hc:=n8 h.clean hb (bs':=bs') (l:=l) hid dst
 refine ⟨fun d hd=>?_,fun i f cs hx=>?_,hc.tk⟩
 ·obtain ⟨j,hj,rfl⟩:=List.mem_iff_getElem.1 hd
  have h1:=hc.fr j hj
  rw [dN _ _ hj] at h1
  refine ⟨h1,?_⟩
  rcases lS hd with h2 | h2
  ·rw [h2]; trivial
  ·exact (h.fr _ h2).2
 ·refine ⟨(hc.hp i f cs hx).1,(hc.hp i f cs hx).2,?_⟩
  rcases kG hx with h1 | h1
  ·exact (h.hp i f cs h1).2.2
  ·rcases List.mem_append.1 h1 with h1 | h1
   ·obtain ⟨_,f,c,kk,h3⟩:=lC h1
    simp only at h3
    rw [h3]
    exact pU kk f c
   ·simp only [List.mem_singleton,Prod.mk.injEq] at h1
    obtain ⟨_,_,rfl⟩:=h1
    exact eS l
theorem xW (h:Tidy lo hi s) {id:Nat} {ids:List Nat} {bs bs':List (List D)} (hb:cQ s.hp ids=some bs) {z n:Nat} {g:Nat→List D} (hid:id+4≤lo∨hi≤id) (dst:Option Nat) :
  Tidy lo hi (s.next dst (.msl id z n) ⟨aY s.hp ids bs'++[(id,false,[.dead,.arr true z n g])],[]⟩):=by
 have hc:=nA h.clean hb (bs':=bs') (z:=z) (n:=n) (g:=g) hid dst
 refine ⟨fun d hd=>?_,fun i f cs hx=>?_,hc.tk⟩
 ·obtain ⟨j,hj,rfl⟩:=List.mem_iff_getElem.1 hd
  have h1:=hc.fr j hj
  rw [dN _ _ hj] at h1
  refine ⟨h1,?_⟩
  rcases lS hd with h2 | h2
  ·rw [h2]; trivial
  ·exact (h.fr _ h2).2
 ·refine ⟨(hc.hp i f cs hx).1,(hc.hp i f cs hx).2,?_⟩
  rcases kG hx with h1 | h1
  ·exact (h.hp i f cs h1).2.2
  ·rcases List.mem_append.1 h1 with h1 | h1
   ·obtain ⟨_,f,c,kk,h3⟩:=lC h1
    simp only at h3
    rw [h3]
    exact pU kk f c
   ·simp only [List.mem_singleton,Prod.mk.injEq] at h1
    obtain ⟨_,_,rfl⟩:=h1
    intro e he
    simp only [List.mem_cons,List.not_mem_nil,or_false] at he
    rcases he with rfl | rfl <;> trivial
theorem s9 {op:AOp} {id:Nat} (h:kE op id=false):aBZ op=false:=by
 unfold kE at h
 cases hl:aBZ op with
 | false=>rfl
 | true=>rw [hl] at h; cases h
def aC1 (o:AO) (s:St) (v:D) (u:Upd):Prop :=
 Keys o.op o.id s.tk u∧∀ lo hi,Tidy lo hi s→(o.id+bE o.op≤lo∨hi≤o.id)→Tidy lo hi (s.next o.dst v u)
theorem uK (hE:f0 E) (hok:kC o.op=true) (hax:o.args.all nQ=true) (h:step E o.op o.id s.hp s.tk (evs s.fr o.args) k):step E o.op o.id s.hp s.tk (evs s.fr o.args) (fun v u=>k v u∧aC1 o s v u):=by
 cases hc:dY o.op with
 | true =>
  obtain ⟨C,vs,p,h1,h2,h3⟩:=(jO hc o.id).1 h
  refine (jO hc o.id).2 ⟨C,vs,p,h1,h2,?_⟩
  obtain ⟨bs,h4,h5,h50,h6⟩:=pE.1 h3
  refine pE.2 ⟨bs,h4,h5,h50,?_⟩
  obtain ⟨j,hj⟩:=sI h1
  refine (hE j C hj).1 _ _ _ _ (fun rs bs' hh=>?_) h6
  obtain ⟨v,u,hho,hk⟩:=cY hh
  have hi4:bE o.op=4:=by cases hop:o.op <;> rw [hop] at hc <;> first | rfl | cases hc
  have hzip:aBZ o.op=false→aY s.hp (ptrs vs) bs'=[]:=fun hl'=>by
   have hp:p=false:=by
    cases hop:o.op <;> rw [hop] at hc hl' h1 <;> first | cases hc | skip
    ·simp only [callee,Option.map_eq_some_iff] at h1
     obtain ⟨_,_,h1⟩:=h1
     cases h1
     cases p <;> first | rfl | cases hl'
    ·simp only [callee] at h1
     split at h1
     ·simp only [Option.map_eq_some_iff] at h1
      obtain ⟨_,_,h1⟩:=h1
      cases h1
      cases p <;> first | rfl | cases hl'
     ·cases h1
   subst hp
   have hn:=h2.resolve_left (by simp)
   rw [pV hn]
   rfl
  have hq0:sY o.op=true→u=Upd.none:=fun hq=>by
   cases hop:o.op <;> rw [hop] at hc hq <;> first | (cases hq; done) | (cases hc; done)
  refine gO hho ⟨hk,⟨hq0,fun hl0 x hx=>?_,fun x hx=>.inl ?_⟩,fun lo hi ht hid=>?_⟩
  ·have hl':=s9 hl0
   obtain ⟨_,⟨_,rfl,rfl⟩ | ⟨l,rfl,_,rfl,rfl⟩ | ⟨_,_,_,_,rfl,rfl,rfl⟩⟩:=gV hho
   ·rw [hzip hl'] at hx
    simp at hx
   ·rw [hzip hl'] at hx
    simp only [List.nil_append,List.mem_singleton] at hx
    subst hx
    simp only
    omega
   ·rw [hzip hl'] at hx
    simp only [List.nil_append,List.mem_singleton] at hx
    subst hx
    simp only
    omega
  ·obtain ⟨_,⟨hl,rfl,rfl⟩ | ⟨l,rfl,_,rfl,rfl⟩ | ⟨_,_,_,_,rfl,rfl,rfl⟩⟩:=gV hho
   ·have e1:=gT _ _ _ hx
    have e2:=l5 _ _ _ hx
    rw [cU] at e2
    omega
   ·simp at hx
   ·simp at hx
  ·rw [hi4] at hid
   obtain ⟨_,⟨hl,rfl,rfl⟩ | ⟨l,rfl,_,rfl,rfl⟩ | ⟨_,_,_,_,rfl,rfl,rfl⟩⟩:=gV hho
   ·exact aHS ht h4 hl hid o.dst
   ·exact yC ht h4 hid o.dst
   ·exact xW ht h4 hid o.dst
 | false =>
  cases hn:i6 o.op with
  | true =>
   have hop:=sG hn
   have h0:step E .mapNext o.id s.hp s.tk (evs s.fr o.args) k:=hop ▸ h
   obtain ⟨i,hi,h1⟩:=(kT o.id).1 h0
   rw [hop]
   refine (kT o.id).2 ⟨i,hi,zV (fun v u hv hk=>⟨hk,?_⟩) h1⟩
   unfold aC1
   rw [hop]
   have hut:u.t=[]:=by rcases hv with ⟨_,rfl⟩ | ⟨_,_,_,_,_,_,_,_,_,_,_,_,_,_,_,rfl⟩ <;> rfl
   refine ⟨⟨fun h=>(by cases h),fun h=>(by cases h),fun x hx=>by rw [hut] at hx; simp at hx⟩,fun lo hi ht hid=>?_⟩
   obtain ⟨e1,e2,e3⟩:=vC hv ht.hp
   refine ht.after ⟨e1,?_⟩ (fun x hx=>⟨(e2 x hx).1,(e2 x hx).2,?_⟩) (fun x hx=>by rw [e3] at hx; simp at hx) o.dst
   ·rcases hv with ⟨rfl,_⟩ | ⟨_,_,_,_,_,_,_,_,_,_,_,_,_,_,rfl,_⟩
    ·intro e he
     simp only [List.mem_cons,List.not_mem_nil,or_false] at he
     subst he
     trivial
    ·intro e he
     simp only [List.mem_cons,List.not_mem_nil,or_false] at he
     rcases he with rfl | rfl | rfl
     ·trivial
     ·trivial
     ·exact oS
   ·rcases hv with ⟨_,rfl⟩ | ⟨_,_,_,_,_,_,_,_,_,_,_,_,_,_,_,rfl⟩
    ·simp [Upd.none] at hx
    ·refine qN ?_ ?_ x hx <;> trivial
  | false =>
  have h:=(gE hc hn o.id).1 h
  obtain ⟨v,u,h1,h2⟩:=cY h
  refine (gE hc hn o.id).2 (gO h1 ⟨h2,aIB h1,fun lo hi ht hid=>?_⟩)
  have ha:=uH ht hax
  obtain ⟨e1,e2,e3⟩:=zS h1 hok (fun d hd=>⟨(ha d hd).1,(ha d hd).2.flatD⟩) ht.hp ht.tk hid
  obtain ⟨e4,e5⟩:=aKH h1 hok (fun d hd=>(ha d hd).2) (fun i f cs hx=>(ht.hp i f cs hx).2.2)
  exact ht.after ⟨e1,e4⟩ (fun x hx=>⟨(e2 x hx).1,(e2 x hx).2,e5 x hx⟩) e3 o.dst
theorem mB (hE:f0 E) (hok:kC o.op=true) (hax:o.args.all nQ=true) {gd:D} (h:jP E o s.hp s.tk (evs s.fr o.args) gd k):jP E o s.hp s.tk (evs s.fr o.args) gd (fun v u=>k v u∧aC1 o s v u):=by
 unfold jP at h ⊢
 cases hg:o.guard with
 | none=>rw [hg] at h; exact uK hE hok hax h
 | some jw =>
  obtain ⟨j,w⟩:=jw
  rw [hg] at h
  simp only at h ⊢
  cases hb:gw gd w with
  | none=>rw [hb] at h; exact h.elim
  | some b =>
   rw [hb] at h
   cases b with
   | true=>exact uK hE hok hax h
   | false=>exact ⟨h,Keys.none,fun lo hi ht _=>ht.dead o.dst⟩
def D.idOf:D→Option Nat
 | .ptr i _=>some i
 | .mref i=>some i
 | .msl i _ _=>some i
 | .rptr i _ _ _ _=>some i
 | .oref i _ _=>some i
 | _=>none
theorem aE0 {d:D} {i lo hi:Nat} (h:d.idOf=some i) (hn:d.names lo hi=false):(Nat.ble lo i&&Nat.blt i hi)=false:=by
 cases d <;> cases h <;> exact hn
def Alike' (op:AOp) (args:List D) (hp hp':Nat→Option (Bool×List D)) (tk tk':Nat→Option (Nat×Nat)):Prop :=
 pI op=false∧(sY op=true∨(hp=hp'∧tk=tk') ∨
 (aBZ op=false∧(∀ d∈args,∀ i,d.idOf=some i→hp i=hp' i)∧(jB op=true→∀ i z n g,D.slice (.own i) z n g∈args→tk i=tk' i)))
theorem qR {id sz bytes:Nat} {t:Tag} {z n:Nat} {g:Nat→List D} {m:Nat} {kk:Nat→List D} (h:∀ i,t=.own i→tk i=tk' i):dL id sz bytes tk t z n g m kk=dL id sz bytes tk' t z n g m kk:=by
 unfold dL
 cases t with
 | own i=>simp only [h i rfl]
 | _=>rfl
theorem wT {op:AOp} {id:Nat} (hw:pI op=false) (h:sY op=true∨(aBZ op=false∧∀ d∈args,∀ i,d.idOf=some i→hp i=hp' i)):kO op id hp args=kO op id hp' args:=by
 rcases h with h | ⟨h1,h2⟩
 ·unfold kO
  split <;> first | rfl | (cases h; done)
 ·unfold kO
  split <;> first | rfl | (cases h1; done) | (cases hw; done) | skip
  ·rename_i i j b
   rw [h2 (.oref i j b) (by simp) i rfl]
  ·rename_i i j b k
   rw [h2 (.oref i j b) (by simp) i rfl]
  ·rename_i i j b
   rw [h2 (.oref i j b) (by simp) i rfl]
  ·rename_i i off r
   rw [h2 (.ptr i off) (by simp) i rfl]
theorem aG0 {op:AOp} {id:Nat} (h:Alike' op args hp hp' tk tk'):aP op id hp tk args=aP op id hp' tk' args:=by
 obtain ⟨hw,h⟩:=h
 rcases h with h | ⟨rfl,rfl⟩ | ⟨h1,h2,h3⟩
 ·unfold aP
  split <;> first | rfl | (cases h; done) | exact wT hw (.inl h)
 ·rfl
 ·unfold aP
  split <;> first | rfl | (cases h1; done) | skip
  ·rename_i g n i off
   simp only [h2 (.ptr i off) (by simp) i rfl]
  ·rename_i sz bytes t z n g t' z' m g'
   rw [qR (fun i e=>h3 rfl i z n g (by simp [e]))]
  ·rename_i sz bytes t z n g b
   rw [qR (fun i e=>h3 rfl i z n g (by simp [e]))]
  ·rename_i i
   rw [h2 (.mref i) (by simp) i rfl]
  ·rename_i i k
   rw [h2 (.mref i) (by simp) i rfl]
  ·rename_i isAgg m j z n i o
   rw [h2 (.rptr j z n i o) (by simp) j rfl]
  ·rename_i sz bytes j z n t z' m h
   rw [h2 (.msl j z n) (by simp) j rfl]
  ·exact wT hw (.inr ⟨h1,h2⟩)
theorem aDX (id:Nat) (bs rs bs'):gX id [] hp bs rs bs'=gX id [] hp' bs rs bs':=by
 unfold gX
 split <;> rfl
theorem aCA {C:aO} {id:Nat} {vs:List D} (h:ptrs vs=[]) (hk:fO C id vs hp k):fO C id vs hp' k:=by
 unfold fO at hk ⊢
 rw [h] at hk ⊢
 have e:∀ bs rs bs',gX id [] hp bs rs bs'=gX id [] hp' bs rs bs':=fun bs rs bs'=>aDX id bs rs bs'
 simp only [e] at hk
 exact hk
theorem uW {op:AOp} {id:Nat} (h:Alike' op args hp hp' tk tk') (hk:step E op id hp tk args k):step E op id hp' tk' args k:=by
 cases hc:dY op with
 | true =>
  obtain ⟨_,h⟩:=h
  rcases h with h | ⟨rfl,rfl⟩ | ⟨h1,h2,h3⟩
  ·cases op <;> first | (cases h; done) | (cases hc; done)
  ·exact hk
  ·obtain ⟨C,vs,p,e1,e2,e3⟩:=(jO hc id).1 hk
   have hp0:p=false:=by
    cases op <;> first | cases hc | skip
    ·simp only [callee,Option.map_eq_some_iff] at e1
     obtain ⟨_,_,e1⟩:=e1
     cases e1
     cases p <;> first | rfl | cases h1
    ·simp only [callee] at e1
     split at e1
     ·simp only [Option.map_eq_some_iff] at e1
      obtain ⟨_,_,e1⟩:=e1
      cases e1
      cases p <;> first | rfl | cases h1
     ·cases e1
   subst hp0
   have hn:=pV (e2.resolve_left (by simp))
   exact (jO hc id).2 ⟨C,vs,false,e1,e2,aCA hn e3⟩
 | false =>
  have hn:i6 op=false:=by
   have:=h.1
   cases op <;> first | rfl | cases this
  have:=(gE hc hn id).1 hk
  rw [aG0 h] at this
  exact (gE hc hn id).2 this
theorem wX {gd:D} (h:Alike' o.op args hp hp' tk tk') (hk:jP E o hp tk args gd k):jP E o hp' tk' args gd k:=by
 unfold jP at hk ⊢
 cases hg:o.guard with
 | none=>rw [hg] at hk; exact uW h hk
 | some jw =>
  obtain ⟨j,w⟩:=jw
  rw [hg] at hk
  simp only at hk ⊢
  cases hb:gw gd w with
  | none=>rw [hb] at hk; exact hk.elim
  | some b =>
   rw [hb] at hk
   cases b with
   | true=>exact uW h hk
   | false=>exact hk
def aMU (o:AO) (hp:Nat→Option (Bool×List D)) (tk:Nat→Option (Nat×Nat)) (args:List D) (gd:D):Out :=
 match o.guard with
 | none=>aP o.op o.id hp tk args
 | some (_,w)=>match gw gd w with
  | some true=>aP o.op o.id hp tk args
  | some false=>.ok (.tup []) Upd.none
  | none=>.bad
theorem n6 (hc:dY o.op=false) (hn:i6 o.op=false) {gd:D}:jP E o hp tk args gd k↔(aMU o hp tk args gd).then k:=by
 unfold jP aMU
 cases o.guard with
 | none=>exact gE hc hn o.id
 | some jw =>
  obtain ⟨j,w⟩:=jw
  simp only
  cases gw gd w with
  | none=>exact Iff.rfl
  | some b =>
   cases b with
   | true=>exact gE hc hn o.id
   | false=>exact Iff.rfl
theorem aGP {o:Out} {v v':D} {u u':Upd} (h:o.holds v u) (h':o.holds v' u'):v=v'∧u=u':=by
 cases o with
 | bad=>exact (aB h).elim
 | ok _ _=>obtain ⟨rfl,rfl⟩:=a6 h; obtain ⟨rfl,rfl⟩:=a6 h'; exact ⟨rfl,rfl⟩
 | ask _ _ _=>obtain ⟨_,rfl,rfl⟩:=aT h; obtain ⟨_,rfl,rfl⟩:=aT h'; exact ⟨rfl,rfl⟩
 | chk _ _ _=>obtain ⟨_,rfl,rfl⟩:=aG h; obtain ⟨_,rfl,rfl⟩:=aG h'; exact ⟨rfl,rfl⟩
 | alt b _ _ _ _ =>
  rcases bP h with ⟨hb,rfl,rfl⟩ | ⟨hb,rfl,rfl⟩ <;> rcases bP h' with ⟨hb',rfl,rfl⟩ | ⟨hb',rfl,rfl⟩ <;> first | exact ⟨rfl,rfl⟩ | (rw [hb] at hb'; cases hb')
theorem aIQ (hE:f0 E) (hcalls:(dY q.op&&dY p.op)=false) (hnq:i6 q.op=false) (hnp:i6 p.op=false) {aq ap gq gp} {f:D→Upd→D→Upd→Prop} (h:jP E q hp tk aq gq (fun vq uq=>jP E p hp tk ap gp (fun vp up=>f vq uq vp up))) :
  jP E p hp tk ap gp (fun vp up=>jP E q hp tk aq gq (fun vq uq=>f vq uq vp up)):=by
 cases hq:dY q.op with
 | false =>
  obtain ⟨vq,uq,h1,h2⟩:=cY ((n6 hq hnq).1 h)
  exact fX hE (fun vp up h3=>(n6 hq hnq).2 (gO h1 h3)) h2
 | true =>
  have hp':dY p.op=false:=by rw [hq] at hcalls; simpa using hcalls
  obtain ⟨vq,uq,h1⟩:=zT hE h
  obtain ⟨vp,up,h2,_⟩:=cY ((n6 hp' hnp).1 h1)
  refine (n6 hp' hnp).2 (gO h2 ?_)
  refine fX hE (fun vq uq h3=>?_) h
  obtain ⟨vp',up',h4,h5⟩:=cY ((n6 hp' hnp).1 h3)
  have:vp'=vp∧up'=up:=by
   exact aGP h4 h2
  rw [← this.1,← this.2]
  exact h5
end
section
variable {E:Env} {o p q:AO} {s:St} {lo hi:Nat}
theorem f7:∀ {l:List (Nat×Bool×List D)} {f:Nat→Option (Bool×List D)} {j:Nat},(∀ x∈l,x.1≠j)→bX f l j=f j
 | [],_,_,_=>rfl
 | (i,e)::l,f,j,h=>by
  simp only [bX]
  rw [f7 (fun x hx=>h x (List.mem_cons_of_mem _ hx))]
  have:Nat.beq j i=false:=by
   cases hh:Nat.beq j i with
   | false=>rfl
   | true=>exact absurd (Nat.eq_of_beq_eq_true hh).symm (h (i,e) (by simp))
  rw [this]
  rfl
theorem aBR:∀ {l:List (Nat×Bool×List D)} {f g:Nat→Option (Bool×List D)} {j:Nat},(∃ x∈l,x.1=j)→bX f l j=bX g l j
 | [],_,_,_,h=>by obtain ⟨_,h,_⟩:=h; cases h
 | (i,e)::l,f,g,j,h=>by
  simp only [bX]
  by_cases hl:∃ x∈l,x.1=j
  ·exact aBR hl
  ·have h':∀ x∈l,x.1≠j:=fun x hx he=>hl ⟨x,hx,he⟩
   rw [f7 h',f7 h']
   obtain ⟨x,hx,rfl⟩:=h
   simp only [List.mem_cons] at hx
   rcases hx with rfl | hx
   ·simp [Nat.beq_refl]
   ·exact absurd rfl (h' x hx)
theorem aAU:∀ {l:List (Nat×Nat×Nat)} {f g:Nat→Option (Nat×Nat)} {j:Nat},(∃ x∈l,x.1=j)→cI f l j=cI g l j
 | [],_,_,_,h=>by obtain ⟨_,h,_⟩:=h; cases h
 | (i,e)::l,f,g,j,h=>by
  simp only [cI]
  by_cases hl:∃ x∈l,x.1=j
  ·exact aAU hl
  ·have h':∀ x∈l,x.1≠j:=fun x hx he=>hl ⟨x,hx,he⟩
   rw [eY h',eY h']
   obtain ⟨x,hx,rfl⟩:=h
   simp only [List.mem_cons] at hx
   rcases hx with rfl | hx
   ·simp [Nat.beq_refl]
   ·exact absurd rfl (h' x hx)
theorem aG1 {l1 l2:List (Nat×Bool×List D)} {f:Nat→Option (Bool×List D)} (h:∀ x∈l1,∀ y∈l2,x.1≠y.1):bX (bX f l1) l2=bX (bX f l2) l1:=by
 funext j
 by_cases h1:∃ x∈l1,x.1=j
 ·obtain ⟨x,hx,rfl⟩:=h1
  rw [f7 (l:=l2) fun y hy he=>h x hx y hy he.symm]
  exact aBR ⟨x,hx,rfl⟩
 ·have h1':∀ x∈l1,x.1≠j:=fun x hx he=>h1 ⟨x,hx,he⟩
  rw [f7 (l:=l1) (f:=bX f l2) h1']
  by_cases h2:∃ x∈l2,x.1=j
  ·exact aBR h2
  ·have h2':∀ x∈l2,x.1≠j:=fun x hx he=>h2 ⟨x,hx,he⟩
   rw [f7 h2',f7 h1',f7 h2']
theorem aHB {l1 l2:List (Nat×Nat×Nat)} {f:Nat→Option (Nat×Nat)} (h:∀ x∈l1,∀ y∈l2,x.1≠y.1):cI (cI f l1) l2=cI (cI f l2) l1:=by
 funext j
 by_cases h1:∃ x∈l1,x.1=j
 ·obtain ⟨x,hx,rfl⟩:=h1
  rw [eY (l:=l2) fun y hy he=>h x hx y hy he.symm]
  exact aAU ⟨x,hx,rfl⟩
 ·have h1':∀ x∈l1,x.1≠j:=fun x hx he=>h1 ⟨x,hx,he⟩
  rw [eY (l:=l1) (tk:=cI f l2) h1']
  by_cases h2:∃ x∈l2,x.1=j
  ·exact aAU h2
  ·have h2':∀ x∈l2,x.1≠j:=fun x hx he=>h2 ⟨x,hx,he⟩
   rw [eY h2',eY h1',eY h2']
theorem aIE {l:List D} {i j:Nat} {a b:D} (h:i≠j):upd (upd l i a) j b=upd (upd l j b) i a:=by
 induction l generalizing i j with
 | nil=>rfl
 | cons d l ih =>
  cases i with
  | zero=>cases j with
   | zero=>exact absurd rfl h
   | succ j=>rfl
  | succ i=>cases j with
   | zero=>rfl
   | succ j =>
    have:i≠j:=fun e=>h (e ▸ rfl)
    simp only [upd,ih this]
theorem jS {a b:List Nat} (h:mP a b=false) {i:Nat} (ha:i∈a) (hb:i∈b):False:=by
 unfold mP at h
 have:=List.any_eq_false.1 h i ha
 have h2:=fun hh=>this hh
 apply h2
 rw [List.any_eq_true]
 exact ⟨i,hb,by simp⟩
structure Apart (a b:AO):Prop where
 wa:pI a.op=false
 wb:pI b.op=false
 wr:mP a.writes b.reads=false
 ww:mP a.writes b.writes=false
 rw:mP a.reads b.writes=false
 calls:(dY a.op&&dY b.op)=false
 apps:(jB a.op&&jB b.op)=false
 kinds:sY a.op=true∨sY b.op=true∨(kE a.op a.id=false∧kE b.op b.id=false)
theorem uP {a b:AO} (h:yN a b=true):Apart a b:=by
 unfold yN at h
 simp only [Bool.and_eq_true,Bool.not_eq_true',Bool.or_eq_true] at h
 obtain ⟨⟨⟨⟨⟨⟨⟨ha,hb⟩,h1⟩,h2⟩,h3⟩,h4⟩,h5⟩,h6⟩:=h
 refine ⟨ha,hb,h1,h2,h3,h4,h5,?_⟩
 rcases h6 with (h6 | h6) | h6
 ·exact .inl h6
 ·exact .inr (.inl h6)
 ·exact .inr (.inr h6)
theorem pH {dst:Option Nat} {v:D} {fr:List D}:∀ {xs:List AX},(∀ d,dst=some d→d ∉ AX.slots xs)→evs (fI dst v fr) xs=evs fr xs
 | [],_=>rfl
 | .c d::xs,h=>by
  simp only [evs]
  rw [pH (xs:=xs) (fun d' hd=>h d' hd)]
  rfl
 | .t i::xs,h=>by
  simp only [evs]
  rw [pH (xs:=xs) (fun d hd hm=>h d hd (by simp [AX.slots,hm]))]
  congr 1
  simp only [AX.ev]
  cases dst with
  | none=>rfl
  | some d =>
   have:d≠i:=fun e=>h d rfl (by simp [AX.slots,e])
   simp only [fI,fR]
   rw [if_neg (fun hh=>this hh.1)]
theorem aD5 (o:AO):(∀ i,i∈AX.slots o.args→i∈o.reads)∧∀ j w,o.guard=some (j,w)→j∈o.reads:=by
 unfold AO.reads
 cases hg:o.guard with
 | none=>exact ⟨fun i hi=>hi,fun j w h=>by cases h⟩
 | some jw =>
  obtain ⟨j,w⟩:=jw
  exact ⟨fun i hi=>List.mem_cons_of_mem _ hi,fun j' w' h=>by cases h; simp⟩
theorem y2 (h:Apart q p) (vq:D) (uq:Upd):evs (s.next q.dst vq uq).fr p.args=evs s.fr p.args∧s8 p (s.next q.dst vq uq).fr=s8 p s.fr:=by
 have hw:∀ d,q.dst=some d→d∈q.writes:=fun d hd=>by simp [AO.writes,hd]
 refine ⟨pH fun d hd hm=>jS h.wr (hw d hd) ((aD5 p).1 d hm),?_⟩
 unfold s8
 cases hg:p.guard with
 | none=>rfl
 | some jw =>
  obtain ⟨j,w⟩:=jw
  have hj:=(aD5 p).2 j w hg
  simp only [St.next]
  cases hd:q.dst with
  | none=>rfl
  | some d =>
   have:d≠j:=fun e=>jS h.wr (hw d hd) (e ▸ hj)
   simp only [fI,fR]
   rw [if_neg (fun hh=>this hh.1)]
theorem Apart.symm (h:Apart q p):Apart p q:=by
 have mc:∀ {a b:List Nat},mP a b=false→mP b a=false:=by
  intro a b h
  cases hh:mP b a with
  | false=>rfl
  | true =>
   unfold mP at hh
   rw [List.any_eq_true] at hh
   obtain ⟨i,hi,h2⟩:=hh
   rw [List.any_eq_true] at h2
   obtain ⟨j,hj,h3⟩:=h2
   simp only [beq_iff_eq] at h3
   subst h3
   exact (jS h hj hi).elim
 refine ⟨h.wb,h.wa,mc h.rw,mc h.ww,mc h.wr,by rw [Bool.and_comm]; exact h.calls,by rw [Bool.and_comm]; exact h.apps,?_⟩
 rcases h.kinds with h1 | h1 | ⟨h1,h2⟩
 ·exact .inr (.inl h1)
 ·exact .inl h1
 ·exact .inr (.inr ⟨h2,h1⟩)
theorem sR {op:AOp} (h:pI op=false):i6 op=false:=by cases op <;> first | rfl | cases h
theorem rE {lo hi j:Nat} (h:(Nat.ble lo j&&Nat.blt j hi)=false) (h1:lo≤j) (h2:j < hi):False:=bC h ⟨h1,h2⟩
theorem aDZ (h:Apart q p) (hax:p.args.all nQ=true) (tq:Tidy q.id (q.id+bE q.op) s) {u:Upd} (hk:Keys q.op q.id s.tk u):Alike' p.op (evs s.fr p.args) s.hp (bX s.hp u.h) s.tk (cI s.tk u.t):=by
 refine ⟨h.wb,?_⟩
 rcases h.kinds with h1 | h1 | ⟨h1,h2⟩
 ·rw [hk.q h1]
  exact .inr (.inl ⟨rfl,rfl⟩)
 ·exact .inl h1
 ·refine .inr (.inr ⟨s9 h2,fun d hm i hi=>?_,fun happ i z n g hm=>?_⟩)
  ·have hn:=aE0 hi (uH tq hax _ hm).1
   rw [f7]
   rintro x hx rfl
   have:=hk.h h1 x hx
   exact rE hn this.1 this.2
  ·have hn:=(uH tq hax _ hm).1
   rw [eY]
   rintro x hx rfl
   rcases hk.t x hx with h3 | ⟨h3,_⟩
   ·exact rE hn h3.1 h3.2
   ·rcases h3 with h3 | h3
    ·have:=h.apps
     rw [h3,happ] at this
     cases this
    ·rw [h1] at h3
     cases h3
theorem Alike'.symm {op:AOp} {args:List D} {hp hp':Nat→Option (Bool×List D)} {tk tk':Nat→Option (Nat×Nat)} (h:Alike' op args hp hp' tk tk'):Alike' op args hp' hp tk' tk:=by
 obtain ⟨hw,h⟩:=h
 refine ⟨hw,?_⟩
 rcases h with h | ⟨h1,h2⟩ | ⟨h1,h2,h3⟩
 ·exact .inl h
 ·exact .inr (.inl ⟨h1.symm,h2.symm⟩)
 ·exact .inr (.inr ⟨h1,fun d hm i hi=>(h2 d hm i hi).symm,fun ha i z n g hm=>(h3 ha i z n g hm).symm⟩)
theorem aHY (h:Apart q p) (tq:Tidy q.id (q.id+bE q.op) s) (tp:Tidy p.id (p.id+bE p.op) s) (hdis:q.id+bE q.op≤p.id∨p.id+bE p.op≤q.id) {vq vp:D} {uq up:Upd} (kq:Keys q.op q.id s.tk uq) (kp:Keys p.op p.id s.tk up) :
  (s.next q.dst vq uq).next p.dst vp up=(s.next p.dst vp up).next q.dst vq uq:=by
 unfold St.next
 simp only [St.mk.injEq]
 refine ⟨?_,?_,?_⟩
 ·cases hq:q.dst with
  | none=>rfl
  | some d =>
   cases hp:p.dst with
   | none=>rfl
   | some e =>
    have:d≠e:=fun he=>jS h.ww (i:=d) (by simp [AO.writes,hq]) (by simp [AO.writes,hp,he])
    exact aIE this
 ·rcases h.kinds with h1 | h1 | ⟨h1,h2⟩
  ·rw [kq.q h1]; rfl
  ·rw [kp.q h1]; rfl
  ·refine aG1 fun x hx y hy he=>?_
   have e1:=kq.h h1 x hx
   have e2:=kp.h h2 y hy
   omega
 ·refine aHB fun x hx y hy he=>?_
  rcases kq.t x hx with e1 | ⟨e1,e2⟩
  ·rcases kp.t y hy with e3 | ⟨e3,e4⟩
   ·omega
   ·cases hx':s.tk y.1 with
    | none=>exact e4 hx'
    | some e =>
     have:=tq.tk _ _ hx'
     omega
  ·rcases kp.t y hy with e3 | ⟨e3,e4⟩
   ·cases hx':s.tk x.1 with
    | none=>exact e2 hx'
    | some e =>
     have:=tp.tk _ _ hx'
     omega
   ·rcases h.kinds with h1 | h1 | ⟨h1,h2⟩
    ·rw [kq.q h1] at hx
     cases hx
    ·rw [kp.q h1] at hy
     cases hy
    ·rcases e1 with e1 | e1
     ·rcases e3 with e3 | e3
      ·have:=h.apps
       rw [e1,e3] at this
       cases this
      ·rw [h2] at e3
       cases e3
     ·rw [h1] at e1
      cases e1
theorem swap (hE:f0 E) (h:Apart q p) (okq:kC q.op=true) (axq:q.args.all nQ=true) (okp:kC p.op=true) (axp:p.args.all nQ=true) (tq:Tidy q.id (q.id+bE q.op) s) (tp:Tidy p.id (p.id+bE p.op) s)
  (hdis:q.id+bE q.op≤p.id∨p.id+bE p.op≤q.id) {K:St→Prop} (hh:gOp E q s (fun s1=>gOp E p s1 K)):gOp E p s (fun s1=>gOp E q s1 K):=by
 rw [hG] at hh
 have h1:=mB hE okq axq hh
 have h2:jP E q s.hp s.tk (evs s.fr q.args) (s8 q s.fr) (fun vq uq=>jP E p s.hp s.tk (evs s.fr p.args) (s8 p s.fr) (fun vp up=>(K ((s.next q.dst vq uq).next p.dst vp up)∧aC1 p s vp up)∧aC1 q s vq uq)):=by
  refine fX hE (fun vq uq hk=>?_) h1
  obtain ⟨hk,ha⟩:=hk
  rw [hG] at hk
  obtain ⟨e1,e2⟩:=y2 (s:=s) h vq uq
  rw [e1,e2] at hk
  have hk:=wX ((aDZ h axp tq ha.1).symm) hk
  exact fX hE (fun vp up h3=>⟨h3,ha⟩) (mB hE okp axp hk)
 have h3:=mB hE okp axp (aIQ hE h.calls (sR h.wa) (sR h.wb) h2)
 rw [hG]
 refine fX hE (fun vp up hk=>?_) h3
 obtain ⟨hk,ha⟩:=hk
 rw [hG]
 obtain ⟨e1,e2⟩:=y2 (s:=s) h.symm vp up
 rw [e1,e2]
 refine wX (aDZ h.symm axq tp ha.1) (fX hE (fun vq uq h4=>?_) hk)
 rw [← aHY h tq tp hdis h4.2.1 h4.1.2.1]
 exact h4.1.1
theorem qP (hE:f0 E) {K K':St→Prop} (h:∀ s',K s'→K' s') (hk:gOp E o s K):gOp E o s K':=by
 rw [hG] at hk ⊢
 exact fX hE (fun v u h1=>h _ h1) hk
theorem wH (hE:f0 E) (hok:kC o.op=true) (hax:o.args.all nQ=true) {K:St→Prop} (hk:gOp E o s K):gOp E o s (fun s'=>K s'∧∀ lo hi,Tidy lo hi s→(o.id+bE o.op≤lo∨hi≤o.id)→Tidy lo hi s'):=by
 rw [hG] at hk ⊢
 exact fX hE (fun v u h1=>⟨h1.1,h1.2.2⟩) (mB hE hok hax hk)
theorem oU (hE:f0 E):∀ {l:List AO} {s:St} {K K':St→Prop},(∀ s',K s'→K' s')→lG E l s K→lG E l s K'
 | [],_,_,_,h,hk=>h _ hk
 | o::l,s,K,K',h,hk=>qP hE (fun s' h1=>oU hE h h1) hk
def Dis (a b:AO):Prop:=a.id+bE a.op≤b.id∨b.id+bE b.op≤a.id
theorem aJN (hE:f0 E) (okp:kC p.op=true) (axp:p.args.all nQ=true):∀ {l1 l2:List AO} {s:St} {K:St→Prop},(∀ q∈l1,Apart q p∧kC q.op=true∧q.args.all nQ=true∧Dis q p)→l1.Pairwise Dis→Tidy p.id (p.id+bE p.op) s →
  (∀ q∈l1,Tidy q.id (q.id+bE q.op) s)→lG E (l1++p::l2) s K→gOp E p s (fun s1=>lG E (l1++l2) s1 K)
 | [],l2,s,K,_,_,_,_,hk=>hk
 | q::l1,l2,s,K,h,hd,tp,tq,hk=>by
  obtain ⟨h1,h2,h3,h4⟩:=h q (by simp)
  have hd':=List.pairwise_cons.1 hd
  have e1:gOp E q s (fun s1=>gOp E p s1 (fun s2=>lG E (l1++l2) s2 K)):=by
   refine qP hE (fun s1 hs=>?_) (wH hE h2 h3 hk)
   obtain ⟨hs1,hs2⟩:=hs
   refine aJN hE okp axp (fun q' hq'=>h q' (List.mem_cons_of_mem _ hq')) hd'.2 (hs2 _ _ tp h4) (fun q' hq'=>?_) hs1
   exact hs2 _ _ (tq q' (List.mem_cons_of_mem _ hq')) (hd'.1 q' hq')
  exact swap hE h1 h2 h3 okp axp (tq q (by simp)) tp h4 e1
end
section
variable {P:Program} {F:Nat→FuncId} {B np:Nat} {w0 w w':World} {ext:List Nat} {σ0:Og} {G G':Gh} {s:St} {a:Act} {ft:FT} {lo hi:Nat} {E:Env}
theorem EnvOk.mf (h:EnvOk P F E):f0 E:=fun j C hj=>⟨(h.2 j C hj).mono,(h.2 j C hj).feas⟩
structure AOR (P:Program) (ft:FT) (np:Nat) (ops:Array Oper) (o:Oper) (ao:AO):Prop where
 tr:aFH P ft np o=some (ao.op,ao.args)
 dst:ao.dst=o.dst
 guard:trG ops o.guard=some ao.guard
 ok:kC ao.op=true
 ax:ao.args.all nQ=true
theorem jL {ops:Array Oper}:∀ {l:List Oper} {at_ n:Nat} {as:List AO},wR P ft np ops l at_=some (as,n)→l.length=as.length∧at_≤n ∧
  (∀ (i:Nat) (o:Oper) (ao:AO),l[i]? = some o→as[i]? = some ao→AOR P ft np ops o ao∧at_≤ao.id∧ao.id+bE ao.op≤n)∧as.Pairwise fun x y=>x.id+bE x.op≤y.id
 | [],at_,n,as,h=>by
  simp only [wR,Option.some.injEq,Prod.mk.injEq] at h
  obtain ⟨rfl,rfl⟩:=h
  exact ⟨rfl,Nat.le_refl _,fun i o ao h=>by simp at h,List.Pairwise.nil⟩
 | o::l,at_,n,as,h=>by
  simp only [wR] at h
  split at h
  ·rename_i ap xs g h1 h2
   cases hb:(kC ap&&xs.all nQ) with
   | false=>rw [hb] at h; cases h
   | true =>
    rw [hb] at h
    simp only [cond_true] at h
    split at h
    ·rename_i as' n' h3
     cases h
     obtain ⟨e1,e2,e3,e4⟩:=jL h3
     simp only [Bool.and_eq_true] at hb
     refine ⟨by simp [e1],by omega,fun i o' ao hi ha=>?_,List.pairwise_cons.2 ⟨fun x hx=>?_,e4⟩⟩
     ·cases i with
      | zero =>
       simp only [List.getElem?_cons_zero,Option.some.injEq] at hi ha
       subst hi ha
       exact ⟨⟨h1,rfl,h2,hb.1,hb.2⟩,Nat.le_refl _,e2⟩
      | succ i =>
       obtain ⟨e5,e6,e7⟩:=e3 i o' ao (by simpa using hi) (by simpa using ha)
       exact ⟨e5,by omega,e7⟩
     ·obtain ⟨j,hj,rfl⟩:=List.mem_iff_getElem.1 hx
      have hj':j < l.length:=by omega
      exact (e3 j l[j] as'[j] (List.getElem?_eq_getElem hj') (List.getElem?_eq_getElem hj)).2.1
    ·cases h
  ·cases h
theorem aNM (hE:EnvOk P F E) (hft:∀ f j,ag ft f=some j→F j=f) (r:Rel F B np w0 ext σ0 G s a w) {ops:Array Oper} {o:Oper} {ao:AO} (hao:AOR P ft np ops o ao) (hnp:np≤ao.id) (hcl:Clean ao.id (ao.id+bE ao.op) s) {K:St→Prop} (h:gOp E ao s K)
  {next:Act→World→Prop} {Q:Exit→Act→World→Prop} (hn:∀ s' a' w' G',K s'→Rel F B np w0 ext σ0 G' s' a' w'→(∀ lo hi,Clean lo hi s→(ao.id+bE ao.op≤lo∨hi≤ao.id)→Clean lo hi s')→next a' w') :
  if Region.wanted o (yielded ops a.tmps) then o.wp P a w next Q else next (a.put o.dst undef) w:=by
 rw [hG] at h
 have run:step E ao.op ao.id s.hp s.tk (evs s.fr ao.args) (fun v u=>K (s.next ao.dst v u))→o.wp P a w next Q:=fun hs =>
  aKO hE hft r hao.tr hao.ok hao.ax hnp hcl hs fun v u v' G' w' hk r' hc=>hn _ _ w' G' (hao.dst ▸ hk) r' hc
 unfold jP at h
 have hg:=hao.guard
 unfold trG at hg
 cases hog:o.guard with
 | none =>
  rw [hog] at hg
  simp only [Option.some.injEq] at hg
  rw [← hg] at h
  have:Region.wanted o (yielded ops a.tmps)=true:=by simp [Region.wanted,hog]
  rw [if_pos this]
  exact run h
 | some jw =>
  obtain ⟨j,wt⟩:=jw
  rw [hog] at hg
  simp only at hg
  cases hd:(ops[j]?).bind (·.dst) with
  | none=>rw [hd] at hg; cases hg
  | some d =>
   rw [hd] at hg
   simp only [Option.some.injEq] at hg
   rw [← hg] at h
   simp only [s8,← hg] at h
   have skip:K (s.next o.dst (.tup []) Upd.none)→next (a.put o.dst undef) w:=fun h=>by
    have r':=r.put hnp hcl (Keeps.refl _ _ G s.tk) r.mem (Rd.tup #[] [] rfl fun j hj=>by simp at hj) o.dst
    refine hn _ _ w G h r' fun lo hi hc _=>?_
    exact hc.after (v:=.tup []) rfl (fun x hx=>by simp [Upd.none] at hx) (fun x hx=>by simp [Upd.none] at hx) o.dst
   rw [hao.dst] at h
   cases hb:nth s.fr d .dead with
   | bool b =>
    rw [hb] at h
    simp only [gw] at h
    have hdl:d < s.fr.length:=by
     rcases Nat.lt_or_ge d s.fr.length with h1 | h1
     ·exact h1
     ·rw [iE s.fr _ h1] at hb; cases hb
    have hr:=r.slots d hdl
    rw [hb] at hr
    have hv:=hr.bool_inv
    have hy:yielded ops a.tmps j=some b:=by
     have hsz:d < a.tmps.size:=by rw [r.size]; exact hdl
     unfold yielded
     rw [hd]
     have:a.tmps[d]? = some (.bool b):=by
      rw [Array.getElem?_eq_getElem hsz]
      rw [Array.getD_eq_getD_getElem?,Array.getElem?_eq_getElem hsz] at hv
      simpa using hv
     simp [this]
    by_cases hw:b=wt
    ·have e:(b==wt)=true:=by rw [hw]; exact beq_self_eq_true _
     rw [e] at h
     have:Region.wanted o (yielded ops a.tmps)=true:=by simp [Region.wanted,hog,hy,hw]
     rw [if_pos this]
     exact run (hao.dst ▸ h)
    ·have e:(b==wt)=false:=beq_false_of_ne hw
     rw [e] at h
     have:¬(Region.wanted o (yielded ops a.tmps)=true):=by simp [Region.wanted,hog,hy,hw]
     rw [if_neg this]
     exact skip h
   | tup l =>
    cases l with
    | cons x l=>rw [hb] at h; exact h.elim
    | nil =>
     rw [hb] at h
     simp only [gw] at h
     have hdl:d < s.fr.length:=by
      rcases Nat.lt_or_ge d s.fr.length with h1 | h1
      ·exact h1
      ·rw [iE s.fr _ h1] at hb; cases hb
     have hr:=r.slots d hdl
     rw [hb] at hr
     have hv:a.tmps.getD d undef=.tuple #[]:=by
      generalize a.tmps.getD d undef=v at hr
      cases hr with
      | any hr=>cases hr with
       | cell hr=>cases hr with
        | pure hr _=>cases hr
      | tup vs l hs _ =>
       have:vs=#[]:=Array.eq_empty_of_size_eq_zero (by simpa using hs)
       rw [this]
     have hy:yielded ops a.tmps j=none:=by
      have hsz:d < a.tmps.size:=by rw [r.size]; exact hdl
      unfold yielded
      rw [hd]
      have:a.tmps[d]? = some (.tuple #[]):=by
       rw [Array.getElem?_eq_getElem hsz]
       rw [Array.getD_eq_getD_getElem?,Array.getElem?_eq_getElem hsz] at hv
       simpa using hv
      simp [this]
     have:¬(Region.wanted o (yielded ops a.tmps)=true):=by simp [Region.wanted,hog,hy]
     rw [if_neg this]
     exact skip h
   | _=>rw [hb] at h; exact h.elim
theorem aAV (hE:EnvOk P F E) (hft:∀ f j,ag ft f=some j→F j=f) {ops:Array Oper} {A:Nat→AO} (hA:∀ (i:Nat) (o:Oper),ops[i]? = some o→AOR P ft np ops o (A i)) {K:St→Prop} {Q:Exit→Act→World→Prop} :
  ∀ (js:List Nat) {s:St} {a:Act} {w:World} {G:Gh},(∀ j∈js,j < ops.size)→(∀ j∈js,np≤(A j).id)→(js.map A).Pairwise Dis→Rel F B np w0 ext σ0 G s a w→(∀ j∈js,Clean (A j).id ((A j).id+bE (A j).op) s)→lG E (js.map A) s K →
  (∀ s' a' w' G',K s'→Rel F B np w0 ext σ0 G' s' a' w'→(∀ lo hi,Clean lo hi s→(∀ j∈js,(A j).id+bE (A j).op≤lo∨hi≤(A j).id)→Clean lo hi s')→Q .normal a' w')→wpOps P ops Q js a w
 | [],s,a,w,G,_,_,_,r,_,hk,hn=>hn s a w G hk r fun lo hi hc _=>hc
 | j::js,s,a,w,G,hlt,hnp,hd,r,hcl,hk,hn=>by
  have hj:=hlt j (by simp)
  have ho:ops[j]? = some ops[j]:=Array.getElem?_eq_getElem hj
  rw [List.map_cons] at hd
  have hd':=List.pairwise_cons.1 hd
  have:=aNM (Q:=Q) (next:=wpOps P ops Q js) hE hft r (hA j _ ho) (hnp j (by simp)) (hcl j (by simp)) hk fun s' a' w' G' hk' r' hc =>
   aAV hE hft hA js (fun i hi=>hlt i (List.mem_cons_of_mem _ hi)) (fun i hi=>hnp i (List.mem_cons_of_mem _ hi)) hd'.2 r' (fun i hi=>hc _ _ (hcl i (List.mem_cons_of_mem _ hi)) (hd'.1 _ (List.mem_map_of_mem hi))) hk'
    fun s2 a2 w2 G2 hk2 r2 hc2=>hn s2 a2 w2 G2 hk2 r2 fun lo hi h0 hdis=>hc2 lo hi (hc lo hi h0 (hdis j (by simp))) fun i hi=>hdis i (List.mem_cons_of_mem _ hi)
  simp only [wpOps,ho]
  split
  ·rename_i hw
   rw [if_pos hw] at this
   exact .inl this
  ·rename_i hw
   rw [if_neg hw] at this
   exact this
end
section
variable {E:Env} {ops:Array Oper} {A:Nat→AO} {s:St} {K:St→Prop}
def bW (listed:Array Bool) (i:Nat):Bool:=listed.getD i false
def rem (n:Nat) (listed:Array Bool):List Nat:=(List.range n).filter fun i=>!bW listed i
def aFJ (ops:Array Oper) (listed:Array Bool):Prop:=∀ (j:Nat) (o:Oper),ops[j]? = some o→bW listed j=true→∀ e∈o.after.toList,Region.binds .any e=true→bW listed e.on=true
theorem pX {listed:Array Bool} {i j:Nat} (hi:i < listed.size):bW (listed.setIfInBounds i true) j=(j==i || bW listed j):=by
 unfold bW
 simp only [Array.getD_eq_getD_getElem?]
 by_cases h:i=j
 ·subst h
  simp [hi]
 ·have:(j==i)=false:=by simp; exact fun h'=>h h'.symm
  rw [Array.getElem?_setIfInBounds_ne h,this]
  rfl
theorem fE {n:Nat} {listed:Array Bool} {i:Nat}:i∈rem n listed↔i < n∧bW listed i=false:=by
 simp [rem,List.mem_filter]
theorem lM (n:Nat) (listed:Array Bool):(rem n listed).Pairwise (· < ·):=List.Pairwise.filter _ (List.pairwise_lt_range)
theorem q8 {n:Nat} {listed:Array Bool} {i:Nat} (hi:i < listed.size):rem n (listed.setIfInBounds i true)=(rem n listed).filter (· != i):=by
 unfold rem
 rw [List.filter_filter]
 congr 1
 funext j
 rw [pX hi]
 cases hji:(j==i) <;> cases hl:bW listed j <;> simp_all [bne]
theorem qI {l1 l2:List Nat} {i:Nat} (h:(l1++i::l2).Pairwise (· < ·)):(l1++i::l2).filter (· != i)=l1++l2∧∀ q∈l1,q < i:=by
 rw [List.pairwise_append] at h
 obtain ⟨_,h2,h3⟩:=h
 have h4:=List.pairwise_cons.1 h2
 have e1:∀ q∈l1,q < i:=fun q hq=>h3 q hq i (by simp)
 refine ⟨?_,e1⟩
 rw [List.filter_append,List.filter_cons]
 have f1:l1.filter (· != i)=l1:=List.filter_eq_self.2 fun q hq=>by have:=e1 q hq; simp; omega
 have f2:l2.filter (· != i)=l2:=List.filter_eq_self.2 fun q hq=>by have:=h4.1 q hq; simp; omega
 rw [f1,f2]
 simp
theorem l9 {listed:Array Bool} (hc:aFJ ops listed):∀ (f i q:Nat) (o:Oper),ops[i]? = some o→(∀ e∈o.after.toList,Region.binds .any e=true→bW listed e.on=true)→(∀ j,bW listed j=true→j < ops.size)→jC ops f i q=true→bW listed q=true
 | 0,i,q,o,_,_,_,h=>by simp [jC] at h
 | f+1,i,q,o,ho,ha,hb,h=>by
  simp only [jC,ho,List.any_eq_true,Bool.and_eq_true,Bool.or_eq_true] at h
  obtain ⟨e,he,h1,h2⟩:=h
  have h3:=ha e he h1
  rcases h2 with h2 | ⟨_,h2⟩
  ·have:e.on=q:=by simpa using h2
   rw [← this]
   exact h3
  ·have hlt:=hb _ h3
   exact l9 hc f e.on q ops[e.on] (Array.getElem?_eq_getElem hlt) (hc e.on _ (Array.getElem?_eq_getElem hlt) h3) hb h2
theorem pD:∀ {l:List Oper} {i:Nat},fM l i=true→∀ (j:Nat) (o:Oper),l[j]? = some o→∀ e∈o.after.toList,Region.binds .any e=true→e.on < i+j
 | [],_,_,j,o,h=>by simp at h
 | o'::l,i,hb,j,o,h=>by
  simp only [fM,Bool.and_eq_true,List.all_eq_true] at hb
  cases j with
  | zero =>
   simp only [List.getElem?_cons_zero,Option.some.injEq] at h
   subst h
   intro e he hbi
   have:=hb.1 e he
   rw [hbi] at this
   simpa using this
  | succ j =>
   intro e he hbi
   have:=pD hb.2 j o (by simpa using h) e he hbi
   omega
theorem lD {listed:Array Bool} (hsz:listed.size=ops.size) {i:Nat}:i∈Region.ready .any ops listed↔i∈rem ops.size listed∧∃ o,ops[i]? = some o∧∀ e∈o.after.toList,Region.binds .any e=true→bW listed e.on=true:=by
 unfold Region.ready
 rw [List.mem_filter,fE,List.mem_range]
 constructor
 ·rintro ⟨h1,h2⟩
  have ho:ops[i]? = some ops[i]:=Array.getElem?_eq_getElem h1
  rw [ho] at h2
  simp only [Option.map_some,Option.getD_some,Bool.and_eq_true,Bool.not_eq_true'] at h2
  have hl:listed[i]? = some listed[i]:=Array.getElem?_eq_getElem (by omega)
  refine ⟨⟨h1,?_⟩,ops[i],ho,fun e he hb=>?_⟩
  ·have:=h2.1
   simp only [Array.getD_eq_getD_getElem?,hl,Option.getD_some] at this
   simp only [bW,Array.getD_eq_getD_getElem?,hl,Option.getD_some]
   exact this
  ·have h3:=Array.all_eq_true_iff_forall_mem.1 h2.2 e (Array.mem_toList_iff.1 he)
   rw [hb] at h3
   simpa [bW] using h3
 ·rintro ⟨⟨h1,h2⟩,o,ho,h3⟩
  have hl:listed[i]? = some listed[i]:=Array.getElem?_eq_getElem (by omega)
  refine ⟨h1,?_⟩
  rw [ho]
  simp only [Option.map_some,Option.getD_some,Bool.and_eq_true,Bool.not_eq_true']
  refine ⟨?_,Array.all_eq_true_iff_forall_mem.2 fun e he=>?_⟩
  ·simp only [bW,Array.getD_eq_getD_getElem?,hl,Option.getD_some] at h2
   simp only [Array.getD_eq_getD_getElem?,hl,Option.getD_some]
   exact h2
  ·cases hb:Region.binds .any e with
   | false=>rfl
   | true=>simpa [bW] using h3 e (Array.mem_toList_iff.2 he) hb
theorem aA8 (fuel t:Nat) (listed:Array Bool):Region.linearise.go .any ops (fuel+1) t listed []=match (Region.ready .any ops listed)[t % (Region.ready .any ops listed).length]? with
  | some i=>i::Region.linearise.go .any ops fuel (t / (Region.ready .any ops listed).length) (listed.setIfInBounds i true) []
  | none=>[]:=by
 simp only [Region.linearise.go]
 change (match (Region.ready .any ops listed)[t % (Region.ready .any ops listed).length]? with
   | some i=>Region.linearise.go .any ops fuel (t / (Region.ready .any ops listed).length) (listed.setIfInBounds i true) [i]
   | none=>[].reverse)=_
 split
 ·rw [linearise_go_acc]
  simp
 ·rfl
theorem zA {l:List Nat} {t:Nat} (h:l[t % l.length]? = none):l=[]:=by
 cases l with
 | nil=>rfl
 | cons x xs =>
  have hlt:t % (x::xs).length < (x::xs).length:=Nat.mod_lt _ (by simp)
  rw [List.getElem?_eq_getElem hlt] at h
  cases h
theorem uV {listed:Array Bool} (hsz:listed.size=ops.size) (hb:fM ops.toList 0=true) (h:Region.ready .any ops listed=[]):rem ops.size listed=[]:=by
 cases hr:rem ops.size listed with
 | nil=>rfl
 | cons m l =>
  have hm:m∈rem ops.size listed:=by rw [hr]; simp
  have hlt:=(fE.1 hm).1
  have ho:ops[m]? = some ops[m]:=Array.getElem?_eq_getElem hlt
  have:m∈Region.ready .any ops listed:=(lD hsz).2 ⟨hm,ops[m],ho,fun e he hbi=>by
   have h1:=pD hb m ops[m] (by rw [Array.getElem?_toList]; exact ho) e he hbi
   cases hl:bW listed e.on with
   | true=>rfl
   | false =>
    have h2:e.on∈rem ops.size listed:=fE.2 ⟨by omega,hl⟩
    have h3:=lM ops.size listed
    rw [hr] at h2 h3
    simp only [List.mem_cons] at h2
    rcases h2 with h2 | h2
    ·omega
    ·have:=(List.pairwise_cons.1 h3).1 _ h2
     omega⟩
  rw [h] at this
  cases this
theorem aFS:∀ (fuel t:Nat) (listed:Array Bool),listed.size=ops.size→(Region.linearise.go .any ops fuel t listed []).Nodup∧∀ j∈Region.linearise.go .any ops fuel t listed [],j∈rem ops.size listed
 | 0,t,listed,_=>by simp [Region.linearise.go]
 | fuel+1,t,listed,hsz=>by
  rw [aA8]
  split
  ·rename_i i hi
   have hm:=((lD hsz).1 (List.mem_of_getElem? hi)).1
   have hlt:=(fE.1 hm).1
   obtain ⟨h1,h2⟩:=aFS fuel (t / (Region.ready .any ops listed).length) (listed.setIfInBounds i true) (by simp [hsz])
   have h3:∀ j,j∈rem ops.size (listed.setIfInBounds i true)→j∈rem ops.size listed∧j≠i:=fun j hj=>by
    rw [q8 (by omega),List.mem_filter] at hj
    exact ⟨hj.1,by simpa using hj.2⟩
   refine ⟨List.nodup_cons.2 ⟨fun h=>(h3 i (h2 i h)).2 rfl,h1⟩,fun j hj=>?_⟩
   simp only [List.mem_cons] at hj
   rcases hj with rfl | hj
   ·exact hm
   ·exact (h3 j (h2 j hj)).1
  ·simp
theorem aCQ (hE:f0 E) (hb:fM ops.toList 0=true) (hap:∀ i j,i < j→j < ops.size→Apart (A i) (A j)∨jC ops ops.size j i=true) (hdis:∀ i j,i < j→j < ops.size→Dis (A i) (A j))
  (hok:∀ i,i < ops.size→kC (A i).op=true∧(A i).args.all nQ=true):∀ (fuel t:Nat) (listed:Array Bool) (s:St),listed.size=ops.size→aFJ ops listed→(rem ops.size listed).length≤fuel →
  (∀ j∈rem ops.size listed,Tidy (A j).id ((A j).id+bE (A j).op) s)→lG E ((rem ops.size listed).map A) s K→lG E ((Region.linearise.go .any ops fuel t listed []).map A) s K
 | 0,t,listed,s,hsz,hc,hf,ht,hk=>by
  have:rem ops.size listed=[]:=List.length_eq_zero_iff.1 (by omega)
  rw [this] at hk
  simpa [Region.linearise.go] using hk
 | fuel+1,t,listed,s,hsz,hc,hf,ht,hk=>by
  rw [aA8]
  split
  ·rename_i i hi
   obtain ⟨hm,o,ho,hafter⟩:=(lD hsz).1 (List.mem_of_getElem? hi)
   have hlt:=(fE.1 hm).1
   obtain ⟨l1,l2,hL⟩:=List.append_of_mem hm
   have hs:=lM ops.size listed
   rw [hL] at hs
   obtain ⟨hfil,hl1⟩:=qI hs
   have hset:rem ops.size (listed.setIfInBounds i true)=l1++l2:=by rw [q8 (by omega),hL,hfil]
   have hbd:∀ j,bW listed j=true→j < ops.size:=fun j hj=>by
    rcases Nat.lt_or_ge j ops.size with h | h
    ·exact h
    ·have:listed[j]? = none:=Array.getElem?_eq_none (by omega)
     simp [bW,this] at hj
   have hmem1:∀ q∈l1,q∈rem ops.size listed:=fun q hq=>by rw [hL]; simp [hq]
   have hmem2:∀ q∈l1++l2,q∈rem ops.size listed:=fun q hq=>by
    rw [hL]
    simp only [List.mem_append,List.mem_cons] at hq ⊢
    rcases hq with hq | hq
    ·exact .inl hq
    ·exact .inr (.inr hq)
   have hne:∀ q∈l1++l2,q≠i:=fun q hq=>by
    have:q∈rem ops.size (listed.setIfInBounds i true):=by rw [hset]; exact hq
    rw [q8 (by omega),List.mem_filter] at this
    simpa using this.2
   have hpair:(l1++l2).Pairwise (· < ·):=by
    rw [← hset]
    exact lM _ _
   have hD:∀ q j,q≠j→q < ops.size→j < ops.size→Dis (A q) (A j):=fun q j h1 h2 h3=>by
    rcases Nat.lt_or_ge q j with h | h
    ·exact hdis q j h h3
    ·have:=hdis j q (by omega) h2
     exact this.symm
   rw [hL,List.map_append,List.map_cons] at hk
   have hbr:=aJN (p:=A i) hE (hok i hlt).1 (hok i hlt).2 (l1:=l1.map A) (l2:=l2.map A) (s:=s) (K:=K) (fun q hq=>by
    obtain ⟨j,hj,rfl⟩:=List.mem_map.1 hq
    have hjm:=fE.1 (hmem1 j hj)
    refine ⟨?_,(hok j hjm.1).1,(hok j hjm.1).2,hD j i (fun h=>by have:=hl1 j hj; omega) hjm.1 hlt⟩
    rcases hap j i (hl1 j hj) hlt with h | h
    ·exact h
    ·have:=l9 hc _ i j o ho hafter hbd h
     rw [hjm.2] at this
     cases this) (by
    refine List.pairwise_map.2 ((List.pairwise_append.1 hpair).1.imp_of_mem fun ha hb' hab=>?_)
    exact hD _ _ (by omega) (fE.1 (hmem1 _ ha)).1 (fE.1 (hmem1 _ hb')).1) (ht i hm) (fun q hq=>by
    obtain ⟨j,hj,rfl⟩:=List.mem_map.1 hq
    exact ht j (hmem1 j hj)) hk
   rw [List.map_cons]
   refine qP hE (fun s1 h1=>?_) (wH hE (hok i hlt).1 (hok i hlt).2 hbr)
   obtain ⟨h1,h2⟩:=h1
   refine aCQ hE hb hap hdis hok fuel _ (listed.setIfInBounds i true) s1 (by simp [hsz]) (fun j o' ho' hj e he hbi=>?_) ?_ (fun j hj=>?_) ?_
   ·rw [pX (by omega)] at hj ⊢
    simp only [Bool.or_eq_true,beq_iff_eq] at hj ⊢
    rcases hj with rfl | hj
    ·rw [ho] at ho'
     cases ho'
     exact .inr (hafter e he hbi)
    ·exact .inr (hc j o' ho' hj e he hbi)
   ·rw [hset]
    rw [hL] at hf
    simp only [List.length_append,List.length_cons] at hf ⊢
    omega
   ·rw [hset] at hj
    exact h2 _ _ (ht j (hmem2 j hj)) (hD i j (fun h=>hne j hj h.symm) hlt (fE.1 (hmem2 j hj)).1)
   ·rw [hset,List.map_append]
    exact h1
  ·rename_i hn
   have:=uV hsz hb (zA hn)
   rw [this] at hk
   exact hk
end
end Go.Abs
