/- The abstract machine and its soundness. -/
import Derived.Carry
import Derived.ChangeOld
import Derived.Lib.Bytealg
import Derived.OpenShut
import GoSem.Claim
import Derived.Test.YtabnaedcnfkmiadA1
set_option linter.unusedVariables false
set_option linter.unusedSimpArgs false
/- Results. -/
namespace Go.Abs
open Go

section
variable {P : Program} {F : Nat → FuncId} {B np : Nat} {w0 w w' : World} {ext : List Nat} {σ0 : Sg} {G G' : Gh} {hp : Nat → Option (Bool × List D)} {tk0 tk tk' : Nat → Option (Nat × Nat)}

theorem var_load (m : Mem F B np w0 ext σ0 G hp tk0 w) {t : TypeId} {g : Bool} {n : Nat} (hg : isAggT P t = some g) (hn : sizeT P t = some n) (hgn : (g || n == 1) = true) {id off : Nat} {f : Bool} {cs : List D} (hi : hp id = some (f,cs)) (hs : (f || solid cs) = true) {v : D} {u : Upd}
    (h : (loadFrom g n (cs.drop off)).holds v u) : ∃ x,(loadVar t ⟨G.β id,off,none⟩).run P w = .ok x w ∧ Rd F G tk0 x v := by
  obtain ⟨h1,rfl,rfl⟩ := loadFrom_holds h
  obtain ⟨val,h2⟩ := m.var_cell hi hs
  rw [List.length_drop] at h1
  exact load_rd (F := F) (G := G) (tk := tk0) (w := w) hg hn hgn (l := cs.drop off) (by rw [List.length_drop]; exact h1) (b := G.β id) (o := off) (fun j => val (off + j)) (fun j hj => (h2 (off + j) (by omega)).1)
    (fun j hj => by rw [nth_drop]; exact (h2 (off + j) (by omega)).2)

theorem outTag_res (m : Mem F B np w0 ext σ0 G hp tk0 w) (hsub : ∀ i e,tk i = some e → tk0 i = some e) {x : Value} {v : D} (hx : Rd F G tk0 x v) {k : D → (Nat → Option (Nat × Nat)) → Prop} (h : outTag tk v k) (hB : ∀ i e b,tk0 i = some e → Owns G hp tk0 b (.inr i) → B ≤ b) :
    ∃ d tk',k d tk' ∧ (∀ i e,tk' i = some e → tk i = some e) ∧ ResR G.σ w B x d ∧ ∀ b,ResOwns x d b → ∃ i,tk' i = none ∧ (∃ e,tk i = some e) ∧ Owns G hp tk0 b (.inr i) := by
  have plain : ∀ {d : D},Rp G.σ x d.pure1 → (∀ q z n g,d ≠ .slice (.own q) z n g) → (∀ c,d ≠ .agg c) → k d tk → ∃ d tk',k d tk' ∧ (∀ i e,tk' i = some e → tk i = some e) ∧ ResR G.σ w B x d ∧ ∀ b,ResOwns x d b → ∃ i,tk' i = none ∧ (∃ e,tk i = some e) ∧ Owns G hp tk0 b (.inr i) := by
    intro d hr hno hna hk
    refine ⟨d,tk,hk,fun i e h => h,?_,fun b hb => ?_⟩
    · cases d with
      | slice t z n g => cases t with
        | own q => exact absurd rfl (hno q z n g)
        | _ => exact hr
      | agg c => exact absurd rfl (hna c)
      | _ => exact hr
    · obtain ⟨q,z,n,g,c,e1,_⟩ := hb
      exact absurd e1 (hno q z n g)
  have cellPure : (∀ c,v ≠ .agg c) → Rp G.σ x v.pure1 := by
    intro hna
    cases hx with
    | any hx => cases hx with
      | cell hc => exact hc.pure1
      | agg cs l _ _ => exact absurd rfl (hna l)
    | tup vs l _ _ => exact .dead _
  cases v with
  | slice t z n g =>
    have hro : Rp G.σ x (.slice .ro z n g) := cellPure (fun c => by simp)
    cases t with
    | own i =>
      cases hi : tk i with
      | none =>
        simp only [outTag,hi] at h
        exact plain (d := .slice .ro z n g) hro (fun _ _ _ _ => by simp) (fun _ => by simp) h
      | some p =>
        obtain ⟨z',n'⟩ := p
        simp only [outTag,hi] at h
        cases hb : Nat.beq z z' with
        | false => rw [hb] at h; exact h.elim
        | true =>
          rw [hb] at h
          have := Nat.eq_of_beq_eq_true hb
          subst this
          obtain ⟨rfl,h⟩ := h
          have hi0 := hsub _ _ hi
          have htag := (hx.slice_inv.2 z n' hi0).2 rfl
          obtain ⟨a,c,h1,h2,h3⟩ := m.toks i z n' hi0
          rw [h1] at htag
          subst htag
          refine ⟨_,_,h,fun j e hj => ?_,⟨hro,a,c,rfl,h2,fun hn => ?_⟩,fun b hb => ?_⟩
          · cases hji : Nat.beq j i with
            | true => rw [hji] at hj; cases hj
            | false => rw [hji] at hj; exact hj
          · obtain ⟨b,cur,e,e1,e2,e3,e4⟩ := h3 hn
            exact ⟨b,cur,e,e1,e2,e3,e4,hB i _ b hi0 ⟨z,n',c,hi0,by rw [h1,e1],hn⟩⟩
          · obtain ⟨q,z2,n2,g2,c2,e1,e2,e3⟩ := hb
            cases e2
            exact ⟨i,by simp [Nat.beq_refl],⟨_,hi⟩,z,n',c,hi0,h1,e3⟩
    | ro => exact plain (d := .slice .ro z n g) hro (fun _ _ _ _ => by simp) (fun _ => by simp) h
    | full => exact plain (d := .slice .ro z n g) hro (fun _ _ _ _ => by simp) (fun _ => by simp) h
  | agg l =>
    obtain ⟨cs,rfl,h1,h2⟩ := hx.agg_inv
    refine ⟨.agg (pures l),tk,h,fun i e h => h,⟨cs,rfl,by rw [length_pures]; exact h1,fun j hj => ?_⟩,fun b hb => ?_⟩
    · rw [length_pures] at hj
      rw [nth_pures,pure1_pure1]
      exact (h2 j hj).pure1
    · obtain ⟨q,z,n,g,c,e1,_⟩ := hb
      cases e1
  | tup l => exact plain (d := .dead) (.dead _) (fun _ _ _ _ => by simp) (fun _ => by simp) h
  | ubool => exact plain (d := .dead) (.dead _) (fun _ _ _ _ => by simp) (fun _ => by simp) h
  | ptr i o => exact plain (d := .dead) (.dead _) (fun _ _ _ _ => by simp) (fun _ => by simp) h
  | eptr l => exact plain (d := .dead) (.dead _) (fun _ _ _ _ => by simp) (fun _ => by simp) h
  | fn f l => exact plain (d := .dead) (.dead _) (fun _ _ _ _ => by simp) (fun _ => by simp) h
  | dead => exact plain (d := .dead) (.dead _) (fun _ _ _ _ => by simp) (fun _ => by simp) h
  | int kk n => exact plain (d := .int kk n) (cellPure fun _ => by simp) (fun _ _ _ _ => by simp) (fun _ => by simp) h
  | bool b => exact plain (d := .bool b) (cellPure fun _ => by simp) (fun _ _ _ _ => by simp) (fun _ => by simp) h
  | str b => exact plain (d := .str b) (cellPure fun _ => by simp) (fun _ _ _ _ => by simp) (fun _ => by simp) h
  | nilp => exact plain (d := .nilp) (cellPure fun _ => by simp) (fun _ _ _ _ => by simp) (fun _ => by simp) h

def resV (tmps : Array Value) (r : ResultVar) : Sem Value :=
  match r with
  | .tmp t => pure (tmps.getD t undef)
  | .cell a t => do loadVar t (← asAddr (tmps.getD a undef))

theorem resK_sound (m : Mem F B np w0 ext σ0 G hp tk0 w) {fr : List D} {tmps : Array Value} (slots : ∀ i,i < fr.length → Rd F G tk0 (tmps.getD i undef) (nth fr i .dead)) (hB : ∀ i e b,tk0 i = some e → Owns G hp tk0 b (.inr i) → B ≤ b) :
    ∀ (ms : List ResultVar) (rs : List RV) (tk : Nat → Option (Nat × Nat)) (k : List D → Prop),trRVs P ms = some rs → (∀ i e,tk i = some e → tk0 i = some e) → resK fr hp rs tk k →
    ∃ vals ds,(ms.mapM (resV tmps)).run P w = .ok vals w ∧ k ds ∧ vals.length = ds.length ∧ (∀ j,j < ds.length → ResR G.σ w B (vals.getD j undef) (nth ds j .dead)) ∧
      (∀ j b,j < ds.length → ResOwns (vals.getD j undef) (nth ds j .dead) b → ∃ i,(∃ e,tk i = some e) ∧ Owns G hp tk0 b (.inr i)) ∧
      ∀ i j b,i < ds.length → j < ds.length → ResOwns (vals.getD i undef) (nth ds i .dead) b → ResOwns (vals.getD j undef) (nth ds j .dead) b → i = j
  | [],rs,tk,k,h,_,hk => by
    cases h
    exact ⟨[],[],by simp,hk,rfl,fun j hj => by simp at hj,fun j b hj => by simp at hj,fun i j b hi => by simp at hi⟩
  | r :: ms,rs,tk,k,h,hsub,hk => by
    simp only [trRVs] at h
    cases h1 : trRV P r with
    | none => simp [h1] at h
    | some rv =>
      cases h2 : trRVs P ms with
      | none => simp [h1,h2] at h
      | some rs' =>
        simp only [h1,h2,Option.some.injEq] at h
        subst h
        obtain ⟨x,v,hx,hv,hk⟩ : ∃ x v,(resV tmps r).run P w = .ok x w ∧ Rd F G tk0 x v ∧ outTag tk v (fun v tk => resK fr hp rs' tk fun vs => k (v :: vs)) := by
          cases r with
          | tmp t =>
            simp only [trRV,Option.some.injEq] at h1
            subst h1
            refine ⟨tmps.getD t undef,nth fr t .dead,by simp [resV],?_,hk⟩
            by_cases ht : t < fr.length
            · exact slots t ht
            · rw [nth_ge fr _ (Nat.le_of_not_lt ht)]
              exact Rd.dead _
          | cell a t =>
            simp only [trRV] at h1
            cases hg : isAggT P t with
            | none => simp [hg] at h1
            | some g =>
              cases hn : sizeT P t with
              | none => simp [hg,hn] at h1
              | some n =>
                simp only [hg,hn] at h1
                split at h1
                · rename_i hgn
                  cases h1
                  simp only [resK] at hk
                  cases hd : nth fr a .dead with
                  | ptr id off =>
                    rw [hd] at hk
                    simp only at hk
                    cases hi : hp id with
                    | none => rw [hi] at hk; exact hk.elim
                    | some e =>
                      obtain ⟨f,cs⟩ := e
                      rw [hi] at hk
                      obtain ⟨hs,hk⟩ := br_true hk
                      obtain ⟨v,u,h3,h4⟩ := then_holds hk
                      have ha : a < fr.length := by
                        rcases Nat.lt_or_ge a fr.length with h5 | h5
                        · exact h5
                        · rw [nth_ge fr _ h5] at hd; cases hd
                      have hp' := slots a ha
                      rw [hd] at hp'
                      have hpv := hp'.ptr_inv
                      obtain ⟨x,h5,h6⟩ := var_load (P := P) m hg hn hgn hi hs h3
                      refine ⟨x,v,?_,h6,h4⟩
                      simp only [resV,Sem.run_bind,hpv,asAddr,Sem.run_pure,Result.andThen_ok,h5]
                  | _ => rw [hd] at hk; exact hk.elim
                · cases h1
        obtain ⟨d,tk',hk,hsub',hres,hown⟩ := outTag_res m hsub hv hk hB
        obtain ⟨vals,ds,e1,e2,e3,e4,e5,e6⟩ := resK_sound m slots hB ms rs' tk' _ h2 (fun i e h => hsub i e (hsub' i e h)) hk
        refine ⟨x :: vals,d :: ds,by simp [List.mapM_cons,hx,e1],e2,by simp [e3],fun j hj => ?_,fun j b hj hb => ?_,fun i j b hi hj hb hb' => ?_⟩
        · cases j with
          | zero => exact hres
          | succ j => exact e4 j (by simpa using hj)
        · cases j with
          | zero =>
            obtain ⟨i,_,h8,h9⟩ := hown b hb
            exact ⟨i,h8,h9⟩
          | succ j =>
            obtain ⟨i,⟨e,h8⟩,h9⟩ := e5 j b (by simpa using hj) hb
            exact ⟨i,⟨e,hsub' i e h8⟩,h9⟩
        · have cross : ∀ q,q < ds.length → ResOwns x d b → ResOwns (vals.getD q undef) (nth ds q .dead) b → False := by
            intro q hq h1 h2
            obtain ⟨i1,h8,_,h9⟩ := hown b h1
            obtain ⟨i2,⟨e,h10⟩,h11⟩ := e5 q b hq h2
            have := m.own1 b _ _ h9 h11
            simp only [Sum.inr.injEq] at this
            rw [this,h10] at h8
            cases h8
          cases i with
          | zero =>
            cases j with
            | zero => rfl
            | succ j => exact (cross j (by simpa using hj) hb hb').elim
          | succ i =>
            cases j with
            | zero => exact (cross i (by simpa using hi) hb' hb).elim
            | succ j => rw [e6 i j b (by simpa using hi) (by simpa using hj) hb hb']

end
end Go.Abs

/- A function. -/
namespace Go.Abs
open Go

theorem DEq.res {d d' : D} (e : DEq d d') {σ : Sg} {w : World} {B : Nat} {v : Value} : (ResR σ w B v d → ResR σ w B v d') ∧ ∀ b,ResOwns v d' b → ResOwns v d b := by
  cases e with
  | refl => exact ⟨fun h => h,fun b h => h⟩
  | dead => exact ⟨fun _ => .dead _,fun b ⟨q,z,n,g,c,e,_⟩ => by cases e⟩
  | slice t t' z n g h ht hl he =>
    have key : Rp σ v (.slice .ro z n g) → Rp σ v (.slice .ro z n h) := fun r => DEq.rp0 (.slice .ro .ro z n g h (.inl rfl) hl he) r
    rcases ht with rfl | rfl
    · cases t' with
      | own q =>
        refine ⟨fun hr => ⟨key hr.1,hr.2⟩,fun b hb => ?_⟩
        obtain ⟨q',z',n',g',c,e1,e2,e3⟩ := hb
        cases e1
        exact ⟨_,_,_,g,c,rfl,e2,e3⟩
      | ro => exact ⟨key,fun b ⟨q,z,n,g,c,e,_⟩ => by cases e⟩
      | full => exact ⟨key,fun b ⟨q,z,n,g,c,e,_⟩ => by cases e⟩
    · refine ⟨fun hr => ?_,fun b ⟨q,z,n,g,c,e,_⟩ => by cases e⟩
      cases t with
      | own q => exact key hr.1
      | ro => exact key hr
      | full => exact key hr
  | agg l l' hl he =>
    refine ⟨fun ⟨cs,e1,e2,e3⟩ => ⟨cs,e1,by rw [e2,hl],fun q hq => (he q).rp (e3 q (by omega))⟩,fun b ⟨q,z,n,g,c,e,_⟩ => by cases e⟩
  | eptr l l' hl he => exact ⟨fun _ => .dead _,fun b ⟨q,z,n,g,c,e,_⟩ => by cases e⟩
  | fn f l l' hl he => exact ⟨fun _ => .dead _,fun b ⟨q,z,n,g,c,e,_⟩ => by cases e⟩

theorem DEqs.spec {l l' : List D} (e : DEqs l l') : l.length = l'.length ∧ ∀ {σ : Sg} {v : Value} (j : Nat),Rp σ v (nth l j .dead).pure1 → Rp σ v (nth l' j .dead).pure1 :=
  ⟨e.1,fun j h => (e.2 j).rp h⟩

theorem DEqs.res {l l' : List D} (e : DEqs l l') : ∀ {σ : Sg} {w : World} {B : Nat} {v : Value} (j : Nat),j < l'.length → (ResR σ w B v (nth l j .dead) → ResR σ w B v (nth l' j .dead)) ∧ ∀ b,ResOwns v (nth l' j .dead) b → ResOwns v (nth l j .dead) b :=
  fun j _ => (e.2 j).res

theorem DEqB.spec {l l' : List (List D)} (e : DEqB l l') : l.length = l'.length ∧ ∀ k,DEqs (l.getD k []) (l'.getD k []) := by
  induction e with
  | nil => exact ⟨rfl,fun k => by simpa using DEqs.refl _⟩
  | cons h _ ih =>
    refine ⟨by simp [ih.1],fun k => ?_⟩
    cases k with
    | zero => simpa using h
    | succ k => simpa using ih.2 k

theorem DEqs.length {l l' : List D} (e : DEqs l l') : l.length = l'.length := e.spec.1

section
variable {P : Program} {F : Nat → FuncId} {ft : FT} {E : Env} {np : Nat}

theorem outBlocks_spec {hp : Nat → Option (Bool × List D)} : ∀ {l : List Nat} {k : List (List D) → Prop},outBlocks hp l k → ∃ bs,k bs ∧ bs.length = l.length ∧ ∀ i,i < l.length → ∃ cs,hp (l.getD i 0) = some (false,cs) ∧ solid cs = true ∧ bs.getD i [] = pures cs
  | [],k,h => ⟨[],h,rfl,fun i hi => by simp at hi⟩
  | id :: l,k,h => by
    simp only [outBlocks] at h
    split at h
    · rename_i cs hc
      obtain ⟨hs,h⟩ := br_true h
      obtain ⟨bs,h1,h2,h3⟩ := outBlocks_spec h
      refine ⟨pures cs :: bs,h1,by simp [h2],fun i hi => ?_⟩
      cases i with
      | zero => exact ⟨cs,by simpa using hc,hs,by simp⟩
      | succ i => simpa using h3 i (by simpa using hi)
    · exact h.elim

theorem initHp_get : ∀ {bs : List (List D)} {i j : Nat} {x : Bool × List D},ag (initHp i bs) j = some x → i ≤ j ∧ j < i + bs.length ∧ x = (false,bs.getD (j - i) [])
  | [],_,_,_,h => by simp [initHp,ag] at h
  | b :: bs,i,j,x,h => by
    simp only [initHp,ag] at h
    cases hb : Nat.beq j i with
    | true =>
      rw [hb] at h
      have := Nat.eq_of_beq_eq_true hb
      subst this
      cases h
      simp
    | false =>
      rw [hb] at h
      obtain ⟨h1,h2,h3⟩ := initHp_get h
      refine ⟨by omega,by simp only [List.length_cons]; omega,?_⟩
      rw [h3,show j - i = (j - (i + 1)) + 1 from by omega]
      simp

theorem upTo_range : ∀ n,upTo n = List.range n
  | 0 => rfl
  | n + 1 => by rw [List.range_succ,← upTo_range n]; rfl

theorem length_deads (n : Nat) : (deads n).length = n := by
  induction n with
  | zero => rfl
  | succ n ih => simp [deads,ih]

theorem nth_deads (n j : Nat) : nth (deads n) j .dead = .dead := by
  induction n generalizing j with
  | zero => rfl
  | succ n ih => cases j with
    | zero => rfl
    | succ j => exact ih j

def runsC (E : Env) (af : AF) (n np : Nat) : Contract := fun vs bs K => vs.length = n ∧ bs.length = np ∧ af.runs E K vs bs

theorem resK_mono {fr : List D} {hp : Nat → Option (Bool × List D)} : ∀ {rs : List RV} {tk : Nat → Option (Nat × Nat)} {k k' : List D → Prop},(∀ l,k l → k' l) → resK fr hp rs tk k → resK fr hp rs tk k'
  | [],_,_,_,h,hk => h _ hk
  | .tmp t :: l,tk,k,k',h,hk => by
    obtain ⟨d,tk',h1,h2⟩ := outTag_iff hk
    exact h2 _ (resK_mono (fun l hl => h _ hl) h1)
  | .cell a g n :: l,tk,k,k',h,hk => by
    simp only [resK] at hk ⊢
    cases hd : nth fr a .dead with
    | ptr id off =>
      rw [hd] at hk
      simp only at hk ⊢
      cases hi : hp id with
      | none => rw [hi] at hk; exact hk.elim
      | some e =>
        obtain ⟨f,cs⟩ := e
        rw [hi] at hk
        refine br_mono (then_mono (fun v u hv => ?_)) hk
        obtain ⟨d,tk',h1,h2⟩ := outTag_iff hv
        exact h2 _ (resK_mono (fun l hl => h _ hl) h1)
    | _ => rw [hd] at hk; exact hk.elim

theorem resK_feas {fr : List D} {hp : Nat → Option (Bool × List D)} : ∀ {rs : List RV} {tk : Nat → Option (Nat × Nat)} {k : List D → Prop},resK fr hp rs tk k → ∃ l,k l
  | [],_,_,hk => ⟨_,hk⟩
  | .tmp t :: l,tk,k,hk => by
    obtain ⟨d,tk',h1,_⟩ := outTag_iff hk
    obtain ⟨l,h⟩ := resK_feas h1
    exact ⟨_,h⟩
  | .cell a g n :: l,tk,k,hk => by
    simp only [resK] at hk
    cases hd : nth fr a .dead with
    | ptr id off =>
      rw [hd] at hk
      simp only at hk
      cases hi : hp id with
      | none => rw [hi] at hk; exact hk.elim
      | some e =>
        obtain ⟨f,cs⟩ := e
        rw [hi] at hk
        obtain ⟨_,hk⟩ := br_true hk
        obtain ⟨v,u,_,hv⟩ := then_holds hk
        obtain ⟨d,tk',h1,_⟩ := outTag_iff hv
        obtain ⟨l,h⟩ := resK_feas h1
        exact ⟨_,h⟩
    | _ => rw [hd] at hk; exact hk.elim

theorem outBlocks_mono {hp : Nat → Option (Bool × List D)} : ∀ {l : List Nat} {k k' : List (List D) → Prop},(∀ b,k b → k' b) → outBlocks hp l k → outBlocks hp l k'
  | [],_,_,h,hk => h _ hk
  | id :: l,k,k',h,hk => by
    simp only [outBlocks] at hk ⊢
    split
    · rename_i cs hc
      rw [hc] at hk
      exact br_mono (outBlocks_mono (fun b hb => h _ hb)) hk
    · rename_i hn
      split at hk
      · rename_i cs hc
        exact (hn cs hc).elim
      · exact hk

theorem RP_mono {rs : List RV} {ps : List Nat} {K K' : List D → List (List D) → Prop} (h : ∀ r b,K r b → K' r b) : ∀ e s,RP rs ps K e s → RP rs ps K' e s := by
  have key : ∀ s : St,(resK s.fr s.hp rs s.tk fun vs => outBlocks s.hp ps fun bs => Leaf K vs bs) → resK s.fr s.hp rs s.tk fun vs => outBlocks s.hp ps fun bs => Leaf K' vs bs := fun s hk =>
    resK_mono (fun l hl => outBlocks_mono (fun b ⟨vs',bs',h1,h2,h3⟩ => ⟨vs',bs',h1,h2,h _ _ h3⟩) hl) hk
  intro e s hk
  cases e with
  | normal => exact key s hk
  | exit j => exact hk.elim
  | ret => exact key s hk

theorem RP_feas {rs : List RV} {ps : List Nat} {K : List D → List (List D) → Prop} {e : AE} {s : St} (hk : RP rs ps K e s) : ∃ r b,K r b := by
  have key : (resK s.fr s.hp rs s.tk fun vs => outBlocks s.hp ps fun bs => Leaf K vs bs) → ∃ r b,K r b := fun hk => by
    obtain ⟨l,h1⟩ := resK_feas hk
    obtain ⟨b,⟨vs',bs',_,_,h3⟩,_⟩ := outBlocks_spec h1
    exact ⟨_,_,h3⟩
  cases e with
  | normal => exact key hk
  | exit j => exact hk.elim
  | ret => exact key hk

end
end Go.Abs

/- A function that has been turned keeps its contract. -/
namespace Go.Abs
open Go

section
variable {P : Program} {F : Nat → FuncId} {ft : FT} {E : Env} {np : Nat}

theorem results_eq (fn : Func) (tmps : Array Value) : results fn tmps = (do let vs ← fn.results.mapM (resV tmps); pure (packV vs)) := by
  have : (fun r => match r with
    | .tmp t => pure (tmps.getD t undef)
    | .cell a t => do loadVar t (← asAddr (tmps.getD a undef)) : ResultVar → Sem Value) = resV tmps := by
    funext r
    cases r <;> rfl
  rw [← this]
  rfl

theorem init_rel {σ : Sg} {w : World} {ext : List Nat} {vals : Array Value} {ds : List D} {bs : List (List D)} (h : CPre F σ w ext vals ds bs) {n more : Nat} (hn : n - vals.size = more) :
    Rel F w.heap.size bs.length w ext σ (G0 σ ext) (init ds bs more) { tmps := vals ++ Array.replicate (n - vals.size) undef,defers := [] } w ∧ ∀ hi,Clean bs.length hi (init ds bs more) := by
  have hb : ∀ id cs,ag (initHp 0 bs) id = some (false,cs) → id < bs.length ∧ cs = bs.getD id [] := fun id cs hx => by
    obtain ⟨_,h2,h3⟩ := initHp_get hx
    cases h3
    exact ⟨by omega,by simp⟩
  have hbt : ∀ id cs,ag (initHp 0 bs) id = some (true,cs) → False := fun id cs hx => by
    obtain ⟨_,_,h3⟩ := initHp_get hx
    cases h3
  have extlt : ∀ k,k < bs.length → ext.getD k 0 < w.heap.size ∧ ext.getD k 0 ∈ ext := fun k hk => by
    obtain ⟨_,c,e,h1,_⟩ := h.blocks k hk
    refine ⟨(Array.getElem?_eq_some_iff.1 h1).1,?_⟩
    have : k < ext.length := by rw [h.len]; exact hk
    simp [this]
  have extinj : ∀ i j,i < bs.length → j < bs.length → ext.getD i 0 = ext.getD j 0 → i = j := fun i j hi hj he => by
    have hi' : i < ext.length := by rw [h.len]; exact hi
    have hj' : j < ext.length := by rw [h.len]; exact hj
    simp [hi',hj'] at he
    have hp := List.pairwise_iff_getElem.1 h.nodup
    rcases Nat.lt_trichotomy i j with h1 | h1 | h1
    · exact absurd he (hp i j hi' hj' h1)
    · exact h1
    · exact absurd he.symm (hp j i hj' hi' h1)
  refine ⟨⟨rfl,?_,fun i hi => ?_,?_,fun id _ => rfl⟩,fun hi => ⟨fun i hi' => ?_,fun i f cs hx => ?_,fun i e hx => by cases hx⟩⟩
  · simp only [init,List.length_append,length_deads,Array.size_append,Array.size_replicate,h.size,← hn]
  · simp only [init,List.length_append,length_deads] at hi
    simp only [init]
    rw [nth_append]
    split
    · rename_i hlt
      have : (vals ++ Array.replicate (n - vals.size) undef).getD i undef = vals.getD i undef := by
        simp only [Array.getD_eq_getD_getElem?]
        rw [Array.getElem?_append_left (by rw [h.size]; exact hlt)]
      rw [this]
      exact h.args i hlt
    · rw [nth_deads]
      exact Rd.dead _
  · refine ⟨h.stab,fun b o _ => rfl,rfl,rfl,rfl,Nat.le_refl _,fun b _ _ => rfl,fun id cs hx => ?_,fun id cs hx => (hbt id cs hx).elim,fun i z n hx => by simp [init] at hx,fun b k k' hk hk' => ?_,fun b k hk => ?_⟩
    · obtain ⟨h1,rfl⟩ := hb id cs hx
      obtain ⟨h2,c,e,h3,h4,h5,h6⟩ := h.blocks id h1
      exact ⟨_,h3,.inl ⟨h2,c,e,rfl,h4,fun j hj => .pure (h5 j hj).1 (by rw [(h5 j hj).2]; exact tagR_pure1 _ _)⟩,h6⟩
    · cases k with
      | inr i => obtain ⟨_,_,_,h1,_⟩ := hk; cases h1
      | inl i =>
        cases k' with
        | inr j => obtain ⟨_,_,_,h1,_⟩ := hk'; cases h1
        | inl j =>
          obtain ⟨cs,h1,h2⟩ := hk
          obtain ⟨cs',h3,h4⟩ := hk'
          have := extinj i j (hb i cs h1).1 (hb j cs' h3).1 (h2.trans h4.symm)
          rw [this]
    · cases k with
      | inr i => obtain ⟨_,_,_,h1,_⟩ := hk; cases h1
      | inl i =>
        obtain ⟨cs,h1,rfl⟩ := hk
        have hlt := (hb i cs h1).1
        exact .inr ⟨(extlt i hlt).2,i,rfl,hlt⟩
  · simp only [init,List.length_append,length_deads] at hi'
    simp only [init]
    rw [nth_append]
    split
    · rename_i hlt
      exact h.clean i hlt hi
    · rw [nth_deads]
      rfl
  · obtain ⟨_,h2,h3⟩ := initHp_get hx
    cases h3
    refine ⟨by omega,?_⟩
    obtain ⟨_,c,e,_,_,h5,_⟩ := h.blocks i (by omega)
    simp only [Nat.sub_zero]
    refine names_iff.2 fun d hd => ?_
    obtain ⟨j,hj,rfl⟩ := List.mem_iff_getElem.1 hd
    have := (h5 j hj).2
    rw [nth_lt _ _ hj] at this
    rw [this]
    exact pure1_names _

theorem fun_ok (hE : EnvOk P F E) (hft : ∀ f j,ag ft f = some j → F j = f) (hmix : P.follows .mixedOrders = true) {f : FuncId} {fn : Func} (hf : P.funcs[f]? = some fn) (hname : (fn.name == "runtime.NumGoroutine") = false) {kills : List Hint} {cuts : List (Nat × Σ α : Type,α → Tm)} {af : AF}
    (ht : trF P ft np kills cuts fn = some af) : CSound P F f (runsC E af (fn.params.size + fn.nfree) np) := by
  unfold trF at ht
  cases hbd : fn.body with
  | none => rw [hbd] at ht; cases ht
  | some c =>
    rw [hbd] at ht
    simp only at ht
    split at ht
    · rename_i b ts' rs hc hrs
      cases ht
      refine ⟨fun args w => ?_,fun ds bs K K' hK hh => ⟨hh.1,hh.2.1,?_⟩,fun ds bs K hh => ?_,fun σ w ext vals ds bs K pre hh => ?_⟩
      · have hname' : ¬ fn.name = "runtime.NumGoroutine" := by simpa using hname
        simp [callFunc,hf,hname',hbd]
      · exact aev_mono hE.mf b (RP_mono hK) hh.2.2
      · obtain ⟨e,s',h⟩ := aev_feas hE.mf b hh.2.2
        exact RP_feas h
      · obtain ⟨hl,hlb,hrun⟩ := hh
        subst hlb
        obtain ⟨hle,hok⟩ := code_ok hE hft hmix c _ ts' b hc
        obtain ⟨r,hcl⟩ := init_rel pre (n := fn.ntmps) (more := fn.ntmps - (fn.params.size + fn.nfree)) (by rw [pre.size,hl])
        refine calls_of_wp hf hbd (hok (Nat.le_refl _) r hcl hrun ?_)
        intro e s' a' w' G' hq r' _
        have key : (resK s'.fr s'.hp rs s'.tk fun vs => outBlocks s'.hp (upTo bs.length) fun bs => Leaf K vs bs) → a'.defers = [] ∧ ∃ v,(results fn a'.tmps).run P w' = .ok v w' ∧ ∃ vs rs bs' σ',Ending.returned v = .returned (packV vs) ∧ K rs bs' ∧ CPost σ w ext w' σ' rs bs' vs := by
          intro hk
          have m := r'.mem
          have hB : ∀ i e b,s'.tk i = some e → Owns G' s'.hp s'.tk b (.inr i) → w.heap.size ≤ b := fun i e b _ ho => by
            rcases m.own2 b _ ho with h | ⟨_,id,h,_⟩
            · exact h
            · cases h
          obtain ⟨vals',ds',e1,e2,e3,e4,e5,e6⟩ := resK_sound (P := P) m r'.slots hB fn.results.toList rs s'.tk _ hrs (fun _ _ h => h) hk
          obtain ⟨bs2,⟨vs',bs',d1,d2,hK⟩,b1,b2⟩ := outBlocks_spec e2
          obtain ⟨q1,q2⟩ := d2.spec
          have hlen := d1.length
          rw [upTo_range] at b1 b2
          simp only [List.length_range] at b1 b2
          refine ⟨r'.defers,packV vals'.toArray,?_,vals'.toArray,vs',bs',G'.σ,rfl,hK,?_⟩
          · have hm : (fn.results.mapM (resV a'.tmps)).run P w' = .ok vals'.toArray w' := by
              rw [Array.mapM_eq_mapM_toList]
              simp [e1]
            rw [results_eq]
            simp only [Sem.run_bind,hm,Result.andThen_ok,Sem.run_pure]
          · refine ⟨m.stab,fun b o v hv => ?_,fun b o hb => m.old b o hb,m.os,m.tape,m.output,m.base,fun b hb he => m.keep b hb he,fun k hk1 hk2 => ?_,by simp [e3,hlen],fun j hj => ?_,fun i j b hi hj ho ho' => ?_⟩
            · obtain ⟨_,c0,e0,fz0,h1,_⟩ := pre.stab b o v hv
              rw [m.old b o (Array.getElem?_eq_some_iff.1 h1).1]
              exact hv
            · have hk3 : k < bs.length := by omega
              obtain ⟨cs,h1,hsol,h2⟩ := b2 k hk3
              have h3 : (List.range bs.length).getD k 0 = k := by simp [hk3]
              rw [h3] at h1
              obtain ⟨o0,h4,hh0,_⟩ := m.vars k cs h1
              obtain ⟨c0,e0,rfl,h5,h6⟩ := hh0.cells hsol
              have h7 := r'.par k hk3
              rw [h7] at h4
              have h8 := q2 k
              rw [h2] at h8
              refine ⟨c0,e0,h4,by rw [h5,← h8.length,length_pures],fun j hj => ?_⟩
              rw [← h8.length,length_pures] at hj
              refine h8.spec.2 j ?_
              rw [nth_pures,pure1_pure1]
              exact (h6 j hj).pure1
            · have h1 := e4 j (by omega)
              have h2 := (d1.res (σ := G'.σ) (w := w') (B := w.heap.size) (v := vals'.getD j undef) j (by omega)).1 h1
              simpa [getD_toList] using h2
            · have h1 := (d1.res (σ := G'.σ) (w := w') (B := w.heap.size) (v := vals'.getD i undef) i (by omega)).2 b (by simpa [getD_toList] using ho)
              have h2 := (d1.res (σ := G'.σ) (w := w') (B := w.heap.size) (v := vals'.getD j undef) j (by omega)).2 b (by simpa [getD_toList] using ho')
              exact e6 i j b (by omega) (by omega) h1 h2
        cases e with
        | normal => exact key hq
        | exit j => exact hq.elim
        | ret => exact key hq
    · cases ht

end
end Go.Abs

/- Contracts that are told by data. -/
namespace Go.Abs
open Go

section
variable {P : Program} {F : Nat → FuncId} {ft : FT} {E : Env} {np : Nat} {f : FuncId}

theorem CPre.deq {σ : Sg} {w : World} {ext : List Nat} {vals : Array Value} {ds ds' : List D} {bs bs' : List (List D)} (h : CPre F σ w ext vals ds bs) (e : DEqs ds ds') (eb : DEqB bs bs') (hs : solids bs' = true) : CPre F σ w ext vals ds' bs' := by
  obtain ⟨hl,hb⟩ := eb.spec
  refine ⟨h.stab,h.size.trans e.1,fun j hj => (e.2 j).rd (h.args j (by rw [e.1]; exact hj)),fun j hj q => by rw [← hl]; exact (e.2 j).names (h.clean j (by rw [e.1]; exact hj) q),h.len.trans hl,h.nodup,fun k hk => ?_⟩
  obtain ⟨h1,c,e',h2,h3,h4,h5⟩ := h.blocks k (by rw [hl]; exact hk)
  have d := hb k
  refine ⟨solids_getD hs hk,c,e',h2,h3.trans d.1,fun j hj => ?_,h5⟩
  obtain ⟨h6,h7⟩ := h4 j (by rw [d.1]; exact hj)
  exact ⟨(d.2 j).rp0 h6,(d.2 j).pure h6 h7⟩

theorem RG_RP {rs : List RV} {ps : List Nat} {vs' : List D} {bs' : List (List D)} {K : List D → List (List D) → Prop} (hK : K vs' bs') : ∀ e s,RG rs ps vs' bs' e s → RP rs ps K e s := by
  have key : ∀ s : St,(resK s.fr s.hp rs s.tk fun vs => outBlocks s.hp ps fun bs => valsK vs vs' (blksK bs bs' True)) → resK s.fr s.hp rs s.tk fun vs => outBlocks s.hp ps fun bs => Leaf K vs bs := fun s hk =>
    resK_mono (fun l hl => outBlocks_mono (fun b hb => ⟨vs',bs',(valsK_spec hb).1,(blksK_spec (valsK_spec hb).2).1,hK⟩) hl) hk
  intro e s hk
  cases e with
  | normal => exact key s hk
  | exit j => exact hk.elim
  | ret => exact key s hk

structure Gv (p : Prop) : Prop where
  ok : p

theorem Gv.of {p q : Prop} (e : p = q) (h : q) : Gv p := ⟨e.mpr h⟩

theorem fn_ok (hE : EnvOk P F E) (hft : ∀ f j,ag ft f = some j → F j = f) (hmix : P.follows .mixedOrders = true) {fn : Func} (hf : P.funcs[f]? = some fn) (hname : (fn.name == "runtime.NumGoroutine") = false) {α : Type} [Inhabited α] {kills : α → List Hint} {cuts : α → List (Nat × Σ β : Type,β → Tm)} {af : α → AF}
    (ht : ∀ a,trF P ft np (kills a) (cuts a) fn = some (af a)) {args : α → List D} {blks : α → List (List D)} {pre : α → Prop} {res : α → List D} {blks' : α → List (List D)} (hn : ∀ a,(args a).length = fn.params.size + fn.nfree) (hb : ∀ a,(blks a).length = np)
    (hok : ∀ a,pre a → Gv ((af a).gives E (args a) (blks a) (res a) (blks' a))) : CSound P F f (FnC args blks pre res blks') := by
  refine ⟨(fun_ok hE hft hmix hf hname (ht default)).enter,fun ds bs K K' hK hh => ?_,fun ds bs K hh => ?_,fun σ w ext vals ds bs K cp hh => ?_⟩
  · obtain ⟨a,hh⟩ := hh
    exact ⟨a,br_mono (valsK_mono (blksK_mono fun ⟨h1,h2⟩ => ⟨h1,hK _ _ h2⟩)) hh⟩
  · obtain ⟨a,hh⟩ := hh
    exact ⟨_,_,(blksK_spec (valsK_spec (br_true hh).2).2).2.2⟩
  · obtain ⟨a,hh⟩ := hh
    obtain ⟨h1,h2⟩ := br_true hh
    obtain ⟨h3,h4⟩ := valsK_spec h2
    obtain ⟨h5,h6,h7⟩ := blksK_spec h4
    exact (fun_ok hE hft hmix hf hname (ht a)).calls σ w ext vals _ _ K (cp.deq h3 h5 h1) ⟨hn a,hb a,aev_mono hE.mf _ (RG_RP h7) (hok a h6).ok⟩

theorem env_nil : EnvOk P F [] := fun j C h => by simp [ag] at h

theorem env_ok {j : Nat} {C : Contract} (h : COk P F (F j) C) (hE : EnvOk P F E) : EnvOk P F ((j,C) :: E) := fun i C' h' => by
  simp only [ag] at h'
  cases hb : Nat.beq i j with
  | true =>
    rw [hb] at h'
    have := Nat.eq_of_beq_eq_true hb
    subst this
    cases h'
    exact h
  | false =>
    rw [hb] at h'
    exact hE i C' h'

theorem env_cons {j : Nat} {C : Contract} (h : CSound P F (F j) C) (hE : EnvOk P F E) : EnvOk P F ((j,C) :: E) := env_ok (.inl h) hE
theorem env_ext {j : Nat} {C : Contract} (h : CExt P F (F j) C) (hE : EnvOk P F E) : EnvOk P F ((j,C) :: E) := env_ok (.inr h) hE

end
end Go.Abs

/- How values of a type are told. -/
namespace Go.Abs
open Go

structure Codec (α : Type) where
  len : Nat
  enc : α → List D
  ok : α → Prop
  size : α → Nat

def boolC : Codec Bool := ⟨1,fun b => [.bool b],fun _ => True,fun _ => 1⟩
def intC (k : IntKind) : Codec Int := ⟨1,fun n => [.int k n],fun n => (Lit.int k n).wf = true,fun _ => 1⟩
def byteC : Codec UInt8 := ⟨1,fun n => [.int .u8 (n.toNat : Int)],fun _ => True,fun _ => 1⟩
def k_byte : Codec UInt8 := byteC
def strC : Codec ByteArray := ⟨1,fun s => [.str s],fun _ => True,fun s => s.size + 1⟩
def sliceC {α : Type} [Inhabited α] (C : Codec α) : Codec (List α) := ⟨1,fun l => [.slice .ro C.len l.length (gl C.enc l)],fun l => ∀ a ∈ l,C.ok a,fun l => (l.map C.size).sum + 1⟩
def pairC {α β : Type} (C : Codec α) (D : Codec β) : Codec (α × β) := ⟨C.len + D.len,fun a => C.enc a.1 ++ D.enc a.2,fun a => C.ok a.1 ∧ D.ok a.2,fun a => C.size a.1 + D.size a.2⟩
def aggC {α : Type} (C : Codec α) : Codec α := ⟨C.len,C.enc,C.ok,fun a => C.size a + 1⟩

end Go.Abs

/- Arguments: what a reading of them tells,as data. -/
namespace Go.Abs
open Go

def σOf (w : World) : Sg := fun b o => match w.heap[b]? with
  | some (.cells c _ _) => match c[o]? with
    | some v => if v.oneCell' then some v else none
    | none => none
  | _ => none

structure Bulk (H : Type) where
  one : DataW H → Nat
  all : List (DataW H) → Nat
  str : ∀ bs,one (.lit (.string bs)) = bs.length + 1
  pos : ∀ d,1 ≤ one d
  slice : ∀ e s,one (.slice e s) = all e + all s + 1
  agg : ∀ ps,one (.agg ps) = all ps + 1
  nil : all [] = 0
  cons : ∀ d r,all (d :: r) = one d + all r

structure Codec.Data {α : Type} (C : Codec α) : Prop where
  len : ∀ a,(C.enc a).length = C.len
  pure : ∀ a,∀ d ∈ C.enc a,d = d.pure1 ∧ d ≠ .dead

structure Reads {α : Type} (P : Program) (t : TypeId) (C : Codec α) : Prop where
  data : C.Data
  cells : P.cellsOf t = C.len
  read : ∀ {H : Type} (eH : TypeId × Value → H) (B : Bulk H) (w : World) (base : Nat) (spare : Nat → Bool) (fuel : Nat) (cs : List Value) (x : DataW H × List MemPlace),DataW.trod eH P w base spare true fuel t cs = some x →
    ∃ a,C.ok a ∧ C.size a ≤ B.one x.1 ∧ cs.length = C.len ∧ ∀ j,j < C.len → Rp (σOf w) (cs.getD j undef) (nth (C.enc a) j .dead)

structure Parts {α : Type} (P : Program) (l : List (TypeId × Nat)) (off : Nat) (C : Codec α) : Prop where
  data : C.Data
  read : ∀ {H : Type} (eH : TypeId × Value → H) (B : Bulk H) (w : World) (base : Nat) (spare : Nat → Bool) (n : Nat) (cs : List Value) (xs : List (DataW H × List MemPlace)),xs.length = l.length →
    (∀ (i : Nat) (f : TypeId × Nat),l[i]? = some f → DataW.trod eH P w base spare true n f.1 ((cs.drop f.2).take (P.cellsOf f.1)) = xs[i]?) →
    ∃ a,C.ok a ∧ C.size a ≤ B.all (xs.map (·.1)) ∧ ∀ j,j < C.len → Rp (σOf w) (cs.getD (off + j) undef) (nth (C.enc a) j .dead)

section
variable {P : Program} {t : TypeId} {α β : Type}

theorem Rp.oneCell {σ : Sg} {v : Value} {d : D} (h : Rp σ v d) (hd : d ≠ .dead) : v.oneCell' = true := by
  cases h <;> first | rfl | exact absurd rfl hd

theorem Codec.Data.nth {C : Codec α} (h : C.Data) (a : α) {j : Nat} (hj : j < C.len) : nth (C.enc a) j .dead = (Abs.nth (C.enc a) j .dead).pure1 ∧ Abs.nth (C.enc a) j .dead ≠ .dead := by
  have hj' : j < (C.enc a).length := by rw [h.len]; exact hj
  rw [nth_lt _ _ hj']
  exact h.pure a _ (List.getElem_mem hj')

theorem bool_data : boolC.Data := ⟨fun _ => rfl,fun a d h => by simp [boolC] at h; subst h; exact ⟨rfl,fun h => by cases h⟩⟩
theorem int_data (k : IntKind) : (intC k).Data := ⟨fun _ => rfl,fun a d h => by simp [intC] at h; subst h; exact ⟨rfl,fun h => by cases h⟩⟩
theorem byte_data : byteC.Data := ⟨fun _ => rfl,fun a d h => by simp [byteC] at h; subst h; exact ⟨rfl,fun h => by cases h⟩⟩
theorem str_data : strC.Data := ⟨fun _ => rfl,fun a d h => by simp [strC] at h; subst h; exact ⟨rfl,fun h => by cases h⟩⟩
theorem slice_data [Inhabited α] (C : Codec α) : (sliceC C).Data := ⟨fun _ => rfl,fun a d h => by simp [sliceC] at h; subst h; exact ⟨rfl,fun h => by cases h⟩⟩
theorem pair_data {C : Codec α} {D : Codec β} (h : C.Data) (k : D.Data) : (pairC C D).Data := ⟨fun a => by simp [pairC,h.len,k.len],fun a d hd => by
  simp only [pairC,List.mem_append] at hd
  rcases hd with hd | hd
  · exact h.pure _ _ hd
  · exact k.pure _ _ hd⟩
theorem agg_data {C : Codec α} (h : C.Data) : (aggC C).Data := ⟨h.len,h.pure⟩

theorem bool_reads (ht : P.underlying t = some .bool) (hc : P.cellsOf t = 1) : Reads P t boolC := ⟨bool_data,hc,fun eH B w base spare fuel cs x h => by
  obtain ⟨b,rfl,rfl⟩ := DataW.trod_bool ht h
  refine ⟨b,trivial,B.pos _,rfl,fun j hj => ?_⟩
  have : j = 0 := by simp only [boolC] at hj; omega
  subst this
  exact .bool b⟩

theorem int_reads {k : IntKind} (ht : P.underlying t = some (.int k)) (hc : P.cellsOf t = 1) : Reads P t (intC k) := ⟨int_data k,hc,fun eH B w base spare fuel cs x h => by
  obtain ⟨n,rfl,rfl,hw⟩ := DataW.trod_int ht h
  refine ⟨n,hw,B.pos _,rfl,fun j hj => ?_⟩
  have : j = 0 := by simp only [intC] at hj; omega
  subst this
  exact .int k n⟩

theorem byte_reads (ht : P.underlying t = some (.int .u8)) (hc : P.cellsOf t = 1) : Reads P t byteC := ⟨byte_data,hc,fun eH B w base spare fuel cs x h => by
  obtain ⟨n,rfl,rfl,hw⟩ := DataW.trod_int ht h
  have hb : 0 ≤ n ∧ n ≤ 255 := by
    simp [Lit.wf,IntKind.min,IntKind.max,IntKind.signed,IntKind.bits] at hw
    omega
  refine ⟨UInt8.ofNat n.toNat,trivial,B.pos _,rfl,fun j hj => ?_⟩
  have : j = 0 := by simp only [byteC] at hj; omega
  subst this
  have e : ((UInt8.ofNat n.toNat).toNat : Int) = n := by rw [UInt8.toNat_ofNat']; omega
  show Rp (σOf w) (.int .u8 n) (.int .u8 ((UInt8.ofNat n.toNat).toNat : Int))
  rw [e]
  exact .int .u8 n⟩

theorem str_reads (ht : P.underlying t = some .string) (hc : P.cellsOf t = 1) : Reads P t strC := ⟨str_data,hc,fun eH B w base spare fuel cs x h => by
  obtain ⟨s,rfl,rfl,hw⟩ := DataW.trod_string ht h
  refine ⟨s,trivial,?_,rfl,fun j hj => ?_⟩
  · rw [B.str,Array.length_toList]
    exact Nat.le_refl _
  · have : j = 0 := by simp only [strC] at hj; omega
    subst this
    exact .str s⟩

theorem addr_add {a : Addr} (h : a.spot = none) (n : Nat) : a.add n = ⟨a.block,a.off + n,none⟩ := by
  unfold Addr.add
  cases a
  simp only at h
  subst h
  split
  · rename_i h; subst h; rfl
  · rfl

theorem choose_list {p : Nat → α → Prop} [Inhabited α] (n : Nat) (h : ∀ i,i < n → ∃ a,p i a) : ∃ l : List α,l.length = n ∧ ∀ i,i < n → p i (l.getD i default) := by
  induction n with
  | zero => exact ⟨[],rfl,fun i hi => by omega⟩
  | succ n ih =>
    obtain ⟨l,h1,h2⟩ := ih fun i hi => h i (by omega)
    obtain ⟨a,ha⟩ := h n (by omega)
    refine ⟨l ++ [a],by simp [h1],fun i hi => ?_⟩
    rcases Nat.lt_or_ge i n with h3 | h3
    · have := h2 i h3
      rw [List.getD_eq_getElem?_getD] at this ⊢
      rw [List.getElem?_append_left (by omega)]
      exact this
    · have : i = n := by omega
      subst this
      rw [List.getD_eq_getElem?_getD,List.getElem?_append_right (by omega)]
      simp only [h1,Nat.sub_self,List.getElem?_cons_zero,Option.getD_some]
      exact ha

theorem σOf_some {w : World} {b o : Nat} {v : Value} (h : w.cell? ⟨b,o,none⟩ = some v) (h1 : v.oneCell' = true) : σOf w b o = some v := by
  unfold World.cell? at h
  unfold σOf
  simp only at h
  split at h
  · rename_i c e fz hh
    simp only [Option.isSome_none,Bool.false_eq_true,if_false] at h
    rw [hh]
    simp only [h,h1,if_true]
  · cases h

theorem all_sum {H : Type} (B : Bulk H) {C : Codec α} [Inhabited α] : ∀ (l : List α) (xs : List (DataW H × List MemPlace)),l.length = xs.length → (∀ i,i < l.length → ∃ x,xs[i]? = some x ∧ C.size (l.getD i default) ≤ B.one x.1) → (l.map C.size).sum ≤ B.all (xs.map (·.1))
  | [],[],_,_ => by simp [B.nil]
  | [],_ :: _,h,_ => by simp at h
  | _ :: _,[],h,_ => by simp at h
  | a :: l,x :: xs,hl,h => by
    have h0 := h 0 (by simp)
    obtain ⟨y,hy,h0⟩ := h0
    simp only [List.getElem?_cons_zero,Option.some.injEq] at hy
    subst hy
    have ih := all_sum B (C := C) l xs (by simpa using hl) fun i hi => by
      obtain ⟨x,h1,h2⟩ := h (i + 1) (by simpa using hi)
      exact ⟨x,by simpa using h1,by simpa using h2⟩
    simp only [List.map_cons,List.sum_cons,B.cons]
    have h0' : C.size a ≤ B.one x.1 := by simpa using h0
    omega

theorem slice_reads [Inhabited α] {e : TypeId} {C : Codec α} (ht : P.underlying t = some (.slice e)) (hc : P.cellsOf t = 1) (he : Reads P e C) (hp : 0 < C.len) : Reads P t (sliceC C) := ⟨slice_data C,hc,fun eH B w base spare fuel cs x h => by
  rcases DataW.trod_slice ht h with ⟨rfl,rfl⟩ | ⟨a,len,cap,elems,rest,n,_,rfl,rfl,_,hlc,_,hlen,hel,_,_⟩
  · refine ⟨[],fun a ha => by simp at ha,by simpa [sliceC] using B.pos _,rfl,fun j hj => ?_⟩
    have : j = 0 := by simp only [sliceC] at hj; omega
    subst this
    exact .slice none 0 0 .ro C.len (gl C.enc []) 0 0 (fun _ _ => undef) (Nat.le_refl _) (fun h => absurd rfl h) (fun i hi => by omega) (fun i j hi => by omega) (fun i j hi => by omega)
  · have hspot0 : 0 < len → a.spot = none := fun hi => by
      have h1 := hel 0 hi
      have h2 : elems[0]? = some elems[0] := List.getElem?_eq_getElem (by omega)
      rw [h2,Option.bind_eq_some_iff] at h1
      obtain ⟨cs',h3,h4⟩ := h1
      obtain ⟨_,_,_,h7,_⟩ := he.read eH B w base spare n cs' _ h4
      have := (World.cells?_some h3).2.2 0 (by rw [he.cells]; exact hp)
      rw [Nat.zero_mul,List.getElem?_eq_getElem (by omega)] at this
      unfold World.cell? Addr.add at this
      simp only [if_true] at this
      split at this
      · cases hs : a.spot with
        | none => rfl
        | some s => simp [hs] at this
      · cases this
    have each : ∀ i,i < len → ∃ b : α,C.ok b ∧ (∃ x,elems[i]? = some x ∧ C.size b ≤ B.one x.1) ∧ a.spot = none ∧ ∀ j,j < C.len → ∃ v,w.cell? ⟨a.block,a.off + i * C.len + j,none⟩ = some v ∧ Rp (σOf w) v (nth (C.enc b) j .dead) := by
      intro i hi
      have hspot := hspot0 (by omega)
      have h1 := hel i hi
      have h2 : elems[i]? = some elems[i] := List.getElem?_eq_getElem (by omega)
      rw [h2,Option.bind_eq_some_iff] at h1
      obtain ⟨cs',h3,h4⟩ := h1
      obtain ⟨b,h5,h6,h7,h8⟩ := he.read eH B w base spare n cs' _ h4
      rw [he.cells,addr_add hspot] at h3
      have h9 : ∀ j,j < C.len → w.cell? ⟨a.block,a.off + i * C.len + j,none⟩ = cs'[j]? := by
        intro j hj
        have := (World.cells?_some h3).2.2 j hj
        rw [addr_add (by rfl)] at this
        exact this
      refine ⟨b,h5,⟨_,h2,h6⟩,hspot,fun j hj => ⟨cs'.getD j undef,?_,h8 j hj⟩⟩
      have := h9 j hj
      rw [this,List.getD_eq_getElem?_getD,List.getElem?_eq_getElem (by omega)]
      rfl
    obtain ⟨l,h1,h2⟩ := choose_list len each
    refine ⟨l,fun b hb => ?_,?_,rfl,fun j hj => ?_⟩
    · obtain ⟨i,hi,rfl⟩ := List.mem_iff_getElem.1 hb
      have := (h2 i (by omega)).1
      rw [List.getD_eq_getElem?_getD,List.getElem?_eq_getElem hi] at this
      exact this
    · have := all_sum B (C := C) l elems (by omega) fun i hi => (h2 i (by omega)).2.1
      simp only [sliceC,B.slice]
      omega
    · have : j = 0 := by simp only [sliceC] at hj; omega
      subst this
      have hd : ∀ i,i < len → (gl C.enc l i).length = C.len := fun i _ => he.data.len _
      simp only [sliceC,nth,h1]
      have ex : ∀ i j,∃ v,i < len → j < C.len → w.cell? ⟨a.block,a.off + i * C.len + j,none⟩ = some v ∧ Rp (σOf w) v (nth (C.enc (l.getD i default)) j .dead) := by
        intro i j
        by_cases hi : i < len
        · by_cases hj : j < C.len
          · obtain ⟨v,hv⟩ := (h2 i hi).2.2.2 j hj
            exact ⟨v,fun _ _ => hv⟩
          · exact ⟨undef,fun _ h => absurd h hj⟩
        · exact ⟨undef,fun h _ => absurd h hi⟩
      let val : Nat → Nat → Value := fun i j => Classical.choose (ex i j)
      have hval : ∀ i j,i < len → j < C.len → w.cell? ⟨a.block,a.off + i * C.len + j,none⟩ = some (val i j) ∧ Rp (σOf w) (val i j) (nth (C.enc (l.getD i default)) j .dead) := fun i j => Classical.choose_spec (ex i j)
      refine .slice (some a) len cap .ro C.len (gl C.enc l) a.block a.off val hlc (fun hn => ?_) hd (fun i j hi hj => ?_) (fun i j hi hj => ?_)
      · have := (h2 0 (by omega)).2.2.1
        cases a
        simp only at this
        subst this
        rfl
      · obtain ⟨e1,e2⟩ := hval i j hi hj
        exact σOf_some e1 (e2.oneCell (he.data.nth _ hj).2)
      · exact (hval i j hi hj).2.pure1⟩

theorem parts_one {C : Codec α} {off : Nat} (h : Reads P t C) : Parts P [(t,off)] off C := ⟨h.data,fun eH B w base spare n cs xs hl hx => by
  match xs,hl with
  | [x],_ =>
    have h0 := hx 0 _ rfl
    simp only [List.getElem?_cons_zero] at h0
    obtain ⟨a,h1,h2,h3,h4⟩ := h.read eH B w base spare n _ x h0
    refine ⟨a,h1,by simp only [List.map_cons,List.map_nil,B.cons,B.nil]; omega,fun j hj => ?_⟩
    have := h4 j hj
    simpa [List.getD_eq_getElem?_getD,List.getElem?_take,List.getElem?_drop,h.cells,hj] using this⟩

theorem parts_cons {C : Codec α} {D : Codec β} {l : List (TypeId × Nat)} {off : Nat} (h : Reads P t C) (k : Parts P l (off + C.len) D) : Parts P ((t,off) :: l) off (pairC C D) := ⟨pair_data h.data k.data,fun eH B w base spare n cs xs hl hx => by
  match xs,hl with
  | x :: xs,hl =>
    have h0 := hx 0 _ rfl
    simp only [List.getElem?_cons_zero] at h0
    obtain ⟨a,h1,h2,h3,h4⟩ := h.read eH B w base spare n _ x h0
    obtain ⟨b,k1,k2,k3⟩ := k.read eH B w base spare n cs xs (by simpa using hl) fun i f hf => by simpa using hx (i + 1) f (by simpa using hf)
    refine ⟨(a,b),⟨h1,k1⟩,by simp only [pairC,List.map_cons,B.cons]; omega,fun j hj => ?_⟩
    simp only [pairC] at hj ⊢
    rw [nth_append,h.data.len]
    split
    · rename_i hlt
      have := h4 j hlt
      simpa [List.getD_eq_getElem?_getD,List.getElem?_take,List.getElem?_drop,h.cells,hlt] using this
    · rename_i hge
      have := k3 (j - C.len) (by omega)
      rw [show off + C.len + (j - C.len) = off + j from by omega] at this
      exact this⟩

theorem struct_reads {C : Codec α} {fs : Array Field} (ht : P.underlying t = some (.struct fs)) (hc : P.cellsOf t = C.len) (h : Parts P (fs.toList.map fun f => (f.type,f.offset)) 0 C) : Reads P t (aggC C) := ⟨agg_data h.data,hc,fun eH B w base spare fuel cs x hx => by
  obtain ⟨xs,n,rfl,rfl,hl,hlen,hf⟩ := DataW.trod_struct ht hx
  obtain ⟨a,h1,h2,h3⟩ := h.read eH B w base spare n cs xs (by simp [hlen]) fun i f hi => by
    simp only [List.getElem?_map,Option.map_eq_some_iff] at hi
    obtain ⟨g,hg,rfl⟩ := hi
    exact hf i g (by rw [← Array.getElem?_toList]; exact hg)
  refine ⟨a,h1,by simp only [aggC,B.agg]; omega,by rw [hl,hc]; rfl,fun j hj => ?_⟩
  have := h3 j hj
  rw [Nat.zero_add] at this
  exact this⟩

theorem array_reads {C : Codec α} {m : Nat} {e : TypeId} (ht : P.underlying t = some (.array m e)) (hc : P.cellsOf t = C.len) (h : Parts P ((List.range m).map fun i => (e,i * P.cellsOf e)) 0 C) : Reads P t (aggC C) := ⟨agg_data h.data,hc,fun eH B w base spare fuel cs x hx => by
  obtain ⟨xs,n,rfl,rfl,hl,hlen,hf⟩ := DataW.trod_array ht hx
  obtain ⟨a,h1,h2,h3⟩ := h.read eH B w base spare n cs xs (by simp [hlen]) fun i f hi => by
    simp only [List.getElem?_map,Option.map_eq_some_iff] at hi
    obtain ⟨g,hg,rfl⟩ := hi
    have hlt := (List.getElem?_eq_some_iff.1 hg).1
    simp only [List.length_range] at hlt
    have : g = i := by simpa [hlt] using hg.symm
    subst this
    exact hf g hlt
  refine ⟨a,h1,by simp only [aggC,B.agg]; omega,by rw [hl,hc]; rfl,fun j hj => ?_⟩
  have := h3 j hj
  rw [Nat.zero_add] at this
  exact this⟩

def PureV : D → Prop
  | .agg l => ∀ e ∈ l,e = e.pure1
  | d => d = d.pure1

theorem PureV.names {d : D} (h : PureV d) (lo hi : Nat) : d.names lo hi = false := by
  cases d with
  | agg l => exact names_iff.2 fun e he => by rw [h e he]; exact pure1_names _
  | tup l => cases h
  | slice t z n g => cases t <;> first | rfl | cases h
  | ptr i o => cases h
  | _ => rfl

theorem cellK_refl {d : D} {k : Prop} (h : d = d.pure1) (hk : k) : cellK d d k := by
  cases d with
  | int kd n =>
    have : kindEq kd kd = true := by cases kd <;> rfl
    show Br (kindEq kd kd) (n = n ∧ k) False
    rw [this]
    exact ⟨rfl,hk⟩
  | bool b => exact ⟨rfl,hk⟩
  | str s => exact ⟨rfl,hk⟩
  | slice t z n g =>
    cases t with
    | ro =>
      have : Nat.beq z z = true := Nat.beq_refl z
      show Br (true && Nat.beq z z) (n = n ∧ (∀ i,i < n → DEqs (g i) (g i)) ∧ k) False
      rw [this]
      exact ⟨rfl,fun i _ => DEqs.refl _,hk⟩
    | full => cases h
    | own i => cases h
  | nilp => exact hk
  | dead => exact hk
  | ubool => cases h
  | agg l => cases h
  | tup l => cases h
  | ptr i o => cases h
  | eptr l => cases h
  | fn f l => cases h

theorem cellsK_refl : ∀ {l : List D} {k : Prop},(∀ d ∈ l,d = d.pure1) → k → cellsK l l k
  | [],_,_,hk => hk
  | d :: l,_,h,hk => cellK_refl (h d (by simp)) (cellsK_refl (fun e he => h e (by simp [he])) hk)

theorem valK_refl {d : D} {k : Prop} (h : PureV d) (hk : k) : valK d d k := by
  cases d with
  | agg l => exact cellsK_refl h hk
  | _ => exact cellK_refl h hk

theorem valsK_refl : ∀ {l : List D} {k : Prop},(∀ d ∈ l,PureV d) → k → valsK l l k
  | [],_,_,hk => hk
  | d :: l,_,h,hk => valK_refl (h d (by simp)) (valsK_refl (fun e he => h e (by simp [he])) hk)

structure Args {α : Type} (P : Program) (ts : List TypeId) (C : α → List D) (ok : α → Prop) (size : α → Nat) : Prop where
  len : ∀ a,(C a).length = ts.length
  pure : ∀ a,∀ d ∈ C a,PureV d
  read : ∀ {H : Type} (eH : TypeId × Value → H) (B : Bulk H) (w : World) (base b0 : Nat) (spare : Nat → Bool) (r : Reach) (vs : List Value) (ds : List (DataW H)) (ps : List MemPlace),DataW.TrodAll eH P w base spare true ts vs ds ps →
    (∀ (j : Nat) t v,ts[j]? = some t → vs[j]? = some v → Value.okWide P w r b0 t v) →
    ∃ a,ok a ∧ size a ≤ B.all ds ∧ vs.length = ts.length ∧ ds.length = ts.length ∧ ∀ F (G : Gh) tk,G.σ = σOf w → ∀ j,j < ts.length → Rd F G tk (vs.getD j undef) (nth (C a) j .dead)

theorem args_nil : Args P [] (fun _ : Unit => []) (fun _ => True) (fun _ => 0) := ⟨fun _ => rfl,fun _ d h => by simp at h,fun eH B w base b0 spare r vs ds ps h _ => by
  cases vs with
  | cons => cases ds <;> exact h.elim
  | nil =>
    cases ds with
    | cons => exact h.elim
    | nil => exact ⟨(),trivial,Nat.zero_le _,rfl,rfl,fun F G tk _ j hj => by simp at hj⟩⟩

theorem agg_of_okWide {w : World} {r : Reach} {b0 : Nat} {v : Value} (hg : isAggT P t = some true) (h : Value.okWide P w r b0 t v) : ∃ cs,v = .agg cs := by
  unfold isAggT at hg
  unfold Value.okWide at h
  split at h
  · obtain ⟨cs,h1,_⟩ := h; exact ⟨cs,h1⟩
  · obtain ⟨cs,h1,_⟩ := h; exact ⟨cs,h1⟩
  · rename_i h1 h2
    split at hg
    · rename_i fs h3; exact absurd h3 (h1 fs)
    · rename_i n e h3; exact absurd h3 (h2 n e)
    · cases hg
    · cases hg

theorem one_of_okWide {w : World} {r : Reach} {b0 : Nat} {v : Value} (hg : isAggT P t = some false) (h : Value.okWide P w r b0 t v) : ∀ cs,v ≠ .agg cs := by
  intro cs hv
  subst hv
  unfold isAggT at hg
  unfold Value.okWide at h
  split at h
  · rename_i fs h3; rw [h3] at hg; cases hg
  · rename_i n e h3; rw [h3] at hg; cases hg
  · unfold Cell.okWide at h
    split at h <;> try simp_all
    unfold Cell.ok at h
    split at h <;> simp_all

theorem args_cons {β : Type} {C : Codec α} {ts : List TypeId} {A : β → List D} {ok : β → Prop} {size : β → Nat} {g : Bool} (hg : isAggT P t = some g) (h : Reads P t C) (hl : g = true ∨ C.len = 1) (k : Args P ts A ok size) :
    Args P (t :: ts) (fun x : α × β => mkv g (C.enc x.1) :: A x.2) (fun x => C.ok x.1 ∧ ok x.2) (fun x => C.size x.1 + size x.2) := by
  refine ⟨fun x => by simp [k.len],fun x d hd => ?_,fun eH B w base b0 spare r vs ds ps ht hok => ?_⟩
  · simp only [List.mem_cons] at hd
    rcases hd with rfl | hd
    · cases g with
      | true => exact fun e he => (h.data.pure _ e he).1
      | false =>
        have hl : C.len = 1 := by rcases hl with h | h; · cases h
                                  · exact h
        have := (h.data.nth x.1 (j := 0) (by omega)).1
        show PureV (nth (C.enc x.1) 0 .dead)
        generalize nth (C.enc x.1) 0 .dead = e at this
        cases e <;> first | exact this | cases this
    · exact k.pure _ d hd
  · cases vs with
    | nil => cases ds <;> exact ht.elim
    | cons v vs =>
      cases ds with
      | nil => exact ht.elim
      | cons d ds =>
        obtain ⟨p,q,h1,h2,rfl⟩ := ht
        obtain ⟨fuel,h1⟩ := h1
        obtain ⟨a,a1,a2,a3,a4⟩ := h.read eH B w base spare fuel _ _ h1
        obtain ⟨b,b1,b2,b3,b4,b5⟩ := k.read eH B w base b0 spare r vs ds q h2 fun j t' v' hj hv => hok (j + 1) t' v' (by simpa using hj) (by simpa using hv)
        refine ⟨(a,b),⟨a1,b1⟩,by have a2' : C.size a ≤ B.one d := a2; simp only [B.cons]; omega,by simp [b3],by simp [b4],fun F G tk hσ j hj => ?_⟩
        cases j with
        | succ j => simpa [nth] using b5 F G tk hσ j (by simpa using hj)
        | zero =>
          have hv := hok 0 t v rfl rfl
          have cell : ∀ j,j < C.len → Rc F G tk (v.cells.toList.getD j undef) (nth (C.enc a) j .dead) := fun j hj => by
            refine .pure (hσ ▸ a4 j hj) ?_
            rw [(h.data.nth a hj).1]
            exact tagR_pure1 _ _
          cases g with
          | true =>
            obtain ⟨cs,rfl⟩ := agg_of_okWide hg hv
            refine .any (.agg cs _ ?_ fun j hj => ?_)
            · rw [h.data.len,← a3]; simp [Value.cells]
            · have hj' : j < C.len := by rw [← h.data.len a]; exact hj
              have := cell j hj'
              simpa [Value.cells,Array.getD_eq_getD_getElem?,List.getD_eq_getElem?_getD] using this
          | false =>
            have hl : C.len = 1 := by rcases hl with h | h; · cases h
                                      · exact h
            have h0 := one_of_okWide hg hv
            have := cell 0 (by omega)
            have e : v.cells.toList.getD 0 undef = v := by
              cases v <;> first | rfl | exact absurd rfl (h0 _)
            rw [e] at this
            exact .any (.cell this)

theorem args_one {C : Codec α} {g : Bool} (hg : isAggT P t = some g) (h : Reads P t C) (hl : g = true ∨ C.len = 1) : Args P [t] (fun x : α => [mkv g (C.enc x)]) C.ok C.size := by
  have k := args_cons hg h hl (args_nil (P := P))
  refine ⟨fun x => rfl,fun x d hd => k.pure (x,()) d hd,fun eH B w base b0 spare r vs ds ps ht hok => ?_⟩
  obtain ⟨a,h1,h2,h3,h4,h5⟩ := k.read eH B w base b0 spare r vs ds ps ht hok
  exact ⟨a.1,h1.1,by have h2' : C.size a.1 + 0 ≤ B.all ds := h2; omega,h3,h4,h5⟩

end
end Go.Abs

/- A law: from a contract to the words of its statement. -/
namespace Go.Abs
open Go Go.RowKit Go.ChangeShapes

theorem ft_ok {ft : FT} {F : Nat → FuncId} (h : (ft.all fun x => Nat.beq (F x.2) x.1) = true) : ∀ f j,ag ft f = some j → F j = f := fun f j hj =>
  Nat.eq_of_beq_eq_true (List.all_eq_true.1 h (f,j) (ag_mem hj))

section
variable {H : Type} {eH : TypeId × Value → H} {P : Program}

theorem trodAll_stays {W W' : World} (hl : laidOutB P = true) (hb : Below W.heap.size W W') : ∀ {ts : List TypeId} {vs : List Value} {ds : List (DataW H)} {ps : List MemPlace},(∀ t ∈ ts,P.readableRec t = true ∧ t < P.types.size) →
    DataW.TrodAll eH P W 0 (fun _ => true) true ts vs ds ps → DataW.TrodAll eH P W' 0 (fun b => decide (b < W.heap.size)) true ts vs ds ps
  | [],[],[],_,_,h => h
  | t :: ts,v :: vs,d :: ds,_,hr,⟨p,q,h1,h2,h3⟩ =>
    ⟨p,q,Below.trod hl (hr t (by simp)).1 (hr t (by simp)).2 h1 hb (by obtain ⟨m,hm⟩ := h1; exact DataW.trod_lt m _ _ _ hm),trodAll_stays hl hb (fun t ht => hr t (by simp [ht])) h2,h3⟩
  | [],_ :: _,_,_,_,h => h.elim
  | [],[],_ :: _,_,_,h => h.elim
  | _ :: _,[],_,_,_,h => h.elim
  | _ :: _,_ :: _,[],_,_,h => h.elim

theorem law_contract (B : Bulk H) {fn : Func} {f : FuncId} {F : Nat → FuncId} {α : Type} {A : α → List D} {ok pre : α → Prop} {size : α → Nat} {N : Nat} (hs : CSound P F f (FnC A noB pre (fun _ => [.bool true]) noB))
    (hA : Args P fn.params.toList A ok size) (hpre : ∀ a,ok a → size a ≤ N → pre a) (hlaid : laidOutB P = true) (hread : ∀ t ∈ fn.params.toList,P.readableRec t = true ∧ t < P.types.size) {rt : TypeId} (hres : fn.resultTypes = #[rt]) (hrt : P.underlying rt = some .bool)
    {s : ChangeSpec} (hv : s.vars = []) (hfn : ∀ ds : List (DataW H),ds.length = fn.params.toList.length → s.fn H ds = { results := [.lit (.bool true)],args := ds }) {W : World} {base : Nat} {args : Array Value} {ds gs : List (DataW H)} {before : List MemPlace}
    (hval : ∀ (j : Nat) t v,fn.params[j]? = some t → args[j]? = some v → Value.okWide P W .any base t v) (hW : DataW.Whole eH P fn.params.toList s.vars false W args.toList ds gs before) (hk : B.all (ds ++ gs) ≤ N) :
    Calls P f args W fun e W' => ∃ v,e = .returned v ∧ s.post eH P fn false true false false W args v W' := by
  have hW' := hW
  obtain ⟨p,q,hA0,hV,rfl,hfz,hnd⟩ := hW
  rw [hv] at hV
  obtain ⟨rfl,rfl⟩ := trodVars_none hV
  rw [List.append_nil] at hk
  obtain ⟨a,a1,a2,a3,a4,a5⟩ := hA.read eH B W 0 base (fun _ => true) .any args.toList ds p hA0 fun j t v hj hv => hval j t v (by rw [← Array.getElem?_toList]; exact hj) (by rw [← Array.getElem?_toList]; exact hv)
  have cp : CPre F (σOf W) W [] args (A a) [] := by
    refine ⟨fun b o v h => ?_,by rw [← Array.length_toList,a3,hA.len],fun j hj => ?_,fun j hj h => ?_,rfl,List.nodup_nil,fun k hk => by simp at hk⟩
    · unfold σOf at h
      split at h
      · rename_i c e fz hh
        split at h
        · rename_i u hu
          split at h
          · rename_i h1
            cases h
            exact ⟨h1,c,e,fz,hh,hu⟩
          · cases h
        · cases h
      · cases h
    · have := a5 F (G0 (σOf W) []) (fun _ => none) rfl j (by rw [← hA.len a]; exact hj)
      simpa [Array.getD_eq_getD_getElem?,List.getD_eq_getElem?_getD] using this
    · rw [nth_lt _ _ hj]
      exact (hA.pure a _ (List.getElem_mem hj)).names _ _
  have hfnK : FnC A noB pre (fun _ => [.bool true]) noB (A a) [] (fun rs _ => rs = [.bool true]) := ⟨a,valsK_refl (hA.pure a) ⟨hpre a a1 (by omega),rfl⟩⟩
  refine (hs.calls (σOf W) W [] args (A a) [] _ cp hfnK).mono fun e W' ⟨vs,rs,bs',σ',he,hrs,hp⟩ => ?_
  subst hrs
  have h1 : vs.size = 1 := hp.size
  have h2 := hp.res 0 (by simp)
  have h3 : vs[0]'(by omega) = .bool true := by
    have h4 : Rp σ' (vs.getD 0 undef) (.bool true) := h2
    rw [Array.getD_eq_getD_getElem?,Array.getElem?_eq_getElem (by omega)] at h4
    simp only [Option.getD_some] at h4
    generalize vs[0]'(by omega) = v at h4 ⊢
    cases h4
    rfl
  have h5 : packV vs = .bool true := by
    unfold packV
    rw [dif_pos h1,h3]
  rw [h5] at he
  subst he
  have bel : Below W.heap.size W W' := ⟨hp.os,hp.tape,hp.output,hp.base,fun k hk => hp.keep k hk (by simp)⟩
  have hds := hfn ds a4
  refine ⟨.bool true,rfl,ds,[],p ++ [],[],p,[],hW',?_,?_,?_,bel.frame _,fun h => by cases h⟩
  · rw [List.append_nil,hds,hres]
    exact trodAll_mk1 (shut_bool hrt _)
  · rw [List.append_nil,hds]
    exact trodAll_stays hlaid bel hread hA0
  · rw [List.append_nil,hds,hv]
    exact rfl

end
end Go.Abs

/- Functions that the model answers by itself. -/
namespace Go.Abs
open Go

section
variable {P : Program} {F : Nat → FuncId}

theorem CPost.same {σ : Sg} {w : World} {ext : List Nat} {vals : Array Value} {ds : List D} (h : CPre F σ w ext vals ds []) {v : Value} {d : D} (hr : Rp σ v d.pure1) (hd : ∀ l,d ≠ .agg l) (ht : ∀ q z n g,d ≠ .slice (.own q) z n g) : CPost σ w ext w σ [d] [] #[v] := by
  refine ⟨h.stab,SgLe.refl _,fun _ _ _ => rfl,rfl,rfl,rfl,Nat.le_refl _,fun _ _ _ => rfl,fun k hk => by simp at hk,rfl,fun j hj => ?_,fun i j b hi hj _ _ => ?_⟩
  · have : j = 0 := by simpa using hj
    subst this
    show ResR σ w w.heap.size v d
    cases d with
    | agg l => exact absurd rfl (hd l)
    | slice t z n g => cases t with
      | own q => exact absurd rfl (ht q z n g)
      | _ => exact hr
    | _ => exact hr
  · simp at hi hj
    omega

def ixB (a : ByteArray × Int) : Int := Lib.indexByte a.1.data.toList a.2.toNat.toUInt8

theorem indexByte_ext {f : FuncId} {fn : Func} (hf : P.funcs[f]? = some fn) (hname : (fn.name == "runtime.NumGoroutine") = false) (hb : fn.body.isNone = true) (hn : Extern.findNext fn = none) (he : Extern.find fn = some Extern.BytealgIndexByte.indexByte)
    {pre : ByteArray × Int → Prop} : CExt P F f (FnC (fun a => [.str a.1,.int .u8 a.2]) (fun _ => []) pre (fun a => [.int .i64 (ixB a)]) (fun _ => [])) := by
  refine ⟨fun ds bs K K' hK hh => ?_,fun ds bs K hh => ?_,fun σ w ext vals ds bs K cp hh => ?_⟩
  · obtain ⟨a,hh⟩ := hh
    exact ⟨a,br_mono (valsK_mono (blksK_mono fun ⟨h1,h2⟩ => ⟨h1,hK _ _ h2⟩)) hh⟩
  · obtain ⟨a,hh⟩ := hh
    exact ⟨_,_,(blksK_spec (valsK_spec (br_true hh).2).2).2.2⟩
  · obtain ⟨a,hh⟩ := hh
    obtain ⟨h1,h2⟩ := br_true hh
    obtain ⟨h3,h4⟩ := valsK_spec h2
    obtain ⟨h5,h6,h7⟩ := blksK_spec h4
    have cp' := cp.deq h3 h5 h1
    obtain ⟨s,c⟩ := a
    have e0 := (cp'.args 0 (by simp)).str_inv
    have e1 := (cp'.args 1 (by simp)).int_inv
    have hv : vals = #[.string s,.int .u8 c] := by
      apply Array.ext
      · exact cp'.size
      · intro i hi1 hi2
        have : i = 0 ∨ i = 1 := by simp at hi2; omega
        rcases this with rfl | rfl
        · simpa [Array.getD_eq_getD_getElem?,hi1] using e0
        · simpa [Array.getD_eq_getD_getElem?,hi1] using e1
    subst hv
    refine ⟨w,#[.int .i64 (ixB (s,c))],_,_,σ,?_,h7,CPost.same cp' (.int _ _) (fun _ => by simp) (fun _ _ _ _ => by simp)⟩
    rw [run_callFunc_extern hf hname hb hn he,Lib.run_indexByteString]
    rfl

end
end Go.Abs
