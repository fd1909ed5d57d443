/- The abstract machine and its soundness. -/
import Derived.Lib.OthersKept
import Derived.MapKept
import Derived.Orders
import Derived.Test.YtabnaedcnfkmiadA0
set_option linter.unusedVariables false
set_option linter.unusedSimpArgs false
/- What the code's text is turned to. -/
namespace Go.Abs
open Go

section
variable {P : Program} {F : Nat → FuncId} {B np : Nat} {w0 w w' : World} {ext : List Nat} {σ0 : Sg} {G G' : Gh} {s : St} {a : Act} {ft : FT}

theorem trXs2 {x y : Operand} {l : List AX} (h : trXs ft [x,y] = some l) : ∃ p q,l = [p,q] ∧ trX ft x = some p ∧ trX ft y = some q := by
  simp only [trXs] at h
  cases h1 : trX ft x with
  | none => simp [h1] at h
  | some p =>
    cases h2 : trX ft y with
    | none => simp [h1,h2] at h
    | some q =>
      simp [h1,h2] at h
      exact ⟨p,q,h.symm,rfl,rfl⟩

theorem trXs3 {x y z : Operand} {l : List AX} (h : trXs ft [x,y,z] = some l) : ∃ p q t,l = [p,q,t] ∧ trX ft x = some p ∧ trX ft y = some q ∧ trX ft z = some t := by
  simp only [trXs] at h
  cases h1 : trX ft x with
  | none => simp [h1] at h
  | some p =>
    cases h2 : trX ft y with
    | none => simp [h1,h2] at h
    | some q =>
      cases h3 : trX ft z with
      | none => simp [h1,h2,h3] at h
      | some t =>
        simp [h1,h2,h3] at h
        exact ⟨p,q,t,h.symm,rfl,rfl,rfl⟩

theorem trZ_rd {G : Gh} {tk : Nat → Option (Nat × Nat)} {v : Value} {ax : AX} {fr : List D} (h : Rd F G tk v (ax.ev fr)) (t : TypeId) : Rd F G tk v ((trZ P t ax).ev fr) := by
  unfold trZ
  split
  · rename_i l
    obtain ⟨cs,rfl,h1,h2⟩ := Rd.agg_inv (l := l) h
    refine .any (.agg cs _ (by rw [length_zsets]; exact h1) fun j hj => ?_)
    rw [length_zsets] at hj
    obtain ⟨z,hz⟩ := nth_zsets l (sliceZ P 20 t) j
    rw [hz]
    exact zset1_rc (h2 j hj) z
  · rename_i z g
    cases h with | any h => cases h with | cell h => exact .any (.cell (zset1_rc h _))
  · exact h

theorem trArgs_rd (hft : ∀ f j,ag ft f = some j → F j = f) (r : Rel F B np w0 ext σ0 G s a w) : ∀ {l : List Operand} {ts : List TypeId} {as : List AX},trArgs ft P l ts = some as →
    l.length = as.length ∧ (evs s.fr as).length = as.length ∧ ∀ j,j < as.length → Rd F G s.tk ((l.map a.eval).getD j undef) (nth (evs s.fr as) j .dead)
  | [],ts,as,h => by cases h; exact ⟨rfl,rfl,fun j hj => by simp at hj⟩
  | x :: l,ts,as,h => by
    simp only [trArgs] at h
    cases h1 : trX ft x with
    | none => simp [h1] at h
    | some ax =>
      cases h2 : trArgs ft P l (ts.drop 1) with
      | none => simp only [h1,h2,reduceCtorEq] at h
      | some as' =>
        simp only [h1,h2,Option.some.injEq] at h
        subst h
        obtain ⟨h3,h5,h4⟩ := trArgs_rd hft r h2
        refine ⟨by simp [h3],by simp [evs,h5],fun j hj => ?_⟩
        cases j with
        | zero =>
          simp only [evs,nth,List.map_cons,List.getD_cons_zero]
          split
          · exact .any (.cell (.pure (rp_nil _ _ _ _) ⟨none,rfl⟩))
          · exact trZ_rd (ev_rd hft r h1) _
          · exact ev_rd hft r h1
        | succ j => exact h4 j (by simpa using hj)

theorem trArgs2 {x y : Operand} {ts : List TypeId} {l : List AX} (h : trArgs ft P [x,y] ts = some l) : ∃ p q,l = [p,q] := by
  simp only [trArgs] at h
  cases h1 : trX ft x with
  | none => simp [h1] at h
  | some p =>
    cases h2 : trX ft y with
    | none => simp [h1,h2] at h
    | some q =>
      simp only [h1,h2,Option.some.injEq] at h
      exact ⟨_,_,h.symm⟩

theorem ofCell_names {v : Value} {d : D} (h : ofCell v = some d) (lo hi : Nat) : d.names1 lo hi = false := by
  unfold ofCell at h
  split at h <;> cases h <;> rfl

theorem ofCells_names : ∀ {l : List Value} {ds : List D},ofCells l = some ds → ∀ lo hi,names lo hi ds = false
  | [],ds,h,lo,hi => by cases h; rfl
  | v :: l,ds,h,lo,hi => by
    simp only [ofCells] at h
    split at h
    · rename_i d ds' h1 h2
      cases h
      simp only [names,ofCell_names h1 lo hi,cond_false]
      exact ofCells_names h2 lo hi
    · cases h

theorem D.names_of1 {d : D} {lo hi : Nat} (h : d.names1 lo hi = false) (hn : ∀ l,d ≠ .agg l ∧ d ≠ .tup l) : d.names lo hi = false := by
  cases d with
  | agg l => exact absurd rfl (hn l).1
  | tup l => exact absurd rfl (hn l).2
  | slice t z n g => exact h
  | ptr j o => exact h
  | _ => exact h

theorem ofValue_names {v : Value} {d : D} (h : ofValue v = some d) (lo hi : Nat) : d.names lo hi = false := by
  unfold ofValue at h
  split at h
  · rename_i cs
    cases hc : ofCells cs.toList with
    | none => rw [hc] at h; cases h
    | some ds =>
      rw [hc] at h
      cases h
      exact ofCells_names hc lo hi
  · have h1 := ofCell_names h lo hi
    refine D.names_of1 h1 fun l => ?_
    unfold ofCell at h
    split at h <;> cases h <;> exact ⟨by simp,by simp⟩

theorem ev_names {lo hi : Nat} (hcl : Clean lo hi s) {x : Operand} {ax : AX} (h : trX ft x = some ax) : (ax.ev s.fr).names lo hi = false := by
  cases x with
  | tmp t =>
    cases h
    simp only [AX.ev]
    by_cases ht : t < s.fr.length
    · exact hcl.fr t ht
    · rw [nth_ge s.fr D.dead (Nat.le_of_not_lt ht)]
      rfl
  | const v =>
    simp only [trX,Option.map_eq_some_iff] at h
    obtain ⟨d,h1,rfl⟩ := h
    exact ofValue_names h1 lo hi
  | global g => cases h
  | func f =>
    simp only [trX,Option.map_eq_some_iff] at h
    obtain ⟨j,h1,rfl⟩ := h
    rfl

theorem zeroT_some {t : TypeId} {ds : List D} (h : zeroT P t = some ds) : ∃ i zv,P.info? t = some i ∧ i.zero = some zv ∧ ofCells zv.cells.toList = some ds := by
  unfold zeroT at h
  cases hi : P.info? t with
  | none => simp [hi] at h
  | some i =>
    cases hz : i.zero with
    | none => simp [hi,hz] at h
    | some zv =>
      simp [hi,hz] at h
      exact ⟨i,zv,rfl,hz,h⟩

theorem sizeT_some {t : TypeId} {n : Nat} (h : sizeT P t = some n) : ∃ i,P.info? t = some i ∧ i.size = n := by
  simpa only [sizeT,Option.map_eq_some_iff] using h

theorem isNilSlice_eq {x : Operand} (h : isNilSlice x = true) : x = .const (.slice none 0 0) := by
  unfold isNilSlice at h
  split at h
  · rfl
  · cases h

theorem parts_rel {place place' : Nat → Option (Nat × Nat)} (hft : ∀ f j,ag ft f = some j → F j = f) (r : Rel F B np w0 ext σ0 G s a w) (hpp : ∀ i q,place i = some q → place' i = some q) : ∀ (l : List (Nat × Operand)) (qs : List (Nat × Nat)) (xs : List AX),
    placesOf place l = some qs → trXs ft (l.map (·.2)) = some xs → PartsR F G s.tk place' (l.map fun (i,x) => (i,a.eval x)) qs (evs s.fr xs)
  | [],qs,xs,h1,h2 => by cases h1; cases h2; exact .nil
  | (i,x) :: l,qs,xs,h1,h2 => by
    simp only [placesOf] at h1
    simp only [List.map_cons,trXs] at h2
    cases e1 : place i with
    | none => simp [e1] at h1
    | some q =>
      cases e2 : placesOf place l with
      | none => simp [e1,e2] at h1
      | some qs' =>
        cases e3 : trX ft x with
        | none => simp [e3] at h2
        | some ax =>
          cases e4 : trXs ft (l.map (·.2)) with
          | none => simp [e3,e4] at h2
          | some xs' =>
            simp only [e1,e2,Option.some.injEq] at h1
            simp only [e3,e4,Option.some.injEq] at h2
            subst h1 h2
            exact .cons (hpp _ _ e1) (ev_rd hft r e3) (parts_rel hft r hpp l qs' xs' e2 e4)

theorem sized_places : ∀ (fs : List Field),(fs.all fun f => (sizeT P f.type).isSome) = true → ∃ places : List (Nat × Nat),fs.mapM (fun f => (P.info? f.type).map fun i => (f.offset,i.size)) = some places ∧
    ∀ i : Nat,places[i]? = match fs[i]? with | some f => (sizeT P f.type).map fun n => (f.offset,n) | none => none
  | [],_ => ⟨[],by simp,fun i => by simp⟩
  | f :: fs,h => by
    simp only [List.all_cons,Bool.and_eq_true] at h
    obtain ⟨places,h1,h2⟩ := sized_places fs h.2
    obtain ⟨n,hn⟩ := Option.isSome_iff_exists.1 h.1
    obtain ⟨i,hi,hs⟩ := sizeT_some hn
    refine ⟨(f.offset,i.size) :: places,by simp [List.mapM_cons,hi,h1],fun j => ?_⟩
    cases j with
    | zero => simp [sizeT,hi]
    | succ j => simpa using h2 j

theorem trOX_op1 (hft : ∀ f j,ag ft f = some j → F j = f) (r : Rel F B np w0 ext σ0 G s a w) {o : Option Operand} {os : List (Option Operand)} {l : List AX} (h : trOX ft (o :: os) = some l) : ∃ l',trOX ft os = some l' ∧ Op1 F G s.tk (o.map a.eval) o.isSome (evs s.fr l) (evs s.fr l') := by
  cases o with
  | none => exact ⟨l,h,.absent _⟩
  | some x =>
    simp only [trOX] at h
    cases h1 : trX ft x with
    | none => simp [h1] at h
    | some ax =>
      cases h2 : trOX ft os with
      | none => simp [h1,h2] at h
      | some l' =>
        simp only [h1,h2,Option.some.injEq] at h
        subst h
        exact ⟨l',rfl,.here _ (ev_rd hft r h1)⟩

theorem trOX_nil {l : List AX} (h : trOX ft [] = some l) : l = [] := by cases h; rfl

theorem ownZ_len : ∀ (ds : List D) (zs : List Nat),(ownZ ds zs).length = ds.length
  | [],zs => rfl
  | d :: ds,zs => by
    have h0 : ∀ zs,(ownZ ds zs).length = ds.length := fun zs => ownZ_len ds zs
    cases d <;> (try simp only [ownZ,List.length_cons,h0])
    cases zs <;> simp only [ownZ,List.length_cons,h0]

theorem Clean.free {lo hi : Nat} (h : Clean lo hi s) : Free s.hp s.tk lo hi := ⟨h.hp,h.tk⟩

end
end Go.Abs

/- A map's entries,by their places. -/
namespace Go.Abs
open Go

theorem mpF_le (ks : Nat → ByteArray) (key : ByteArray) : ∀ n,mpF ks key n ≤ n
  | 0 => Nat.le_refl _
  | n + 1 => by
    simp only [mpF]
    have := mpF_le ks key n
    split
    · omega
    · split <;> omega

theorem mpF_at (ks : Nat → ByteArray) (key : ByteArray) : ∀ n,mpF ks key n < n → ks (mpF ks key n) = key
  | 0,h => by simp [mpF] at h
  | n + 1,h => by
    simp only [mpF] at h ⊢
    split
    · rename_i h1
      exact mpF_at ks key n h1
    · rename_i h1
      rw [if_neg h1] at h
      split
      · rename_i h2
        exact h2
      · rename_i h2
        rw [if_neg h2] at h
        omega

theorem mpF_ahead (ks : Nat → ByteArray) (key : ByteArray) : ∀ n j,j < mpF ks key n → ks j ≠ key
  | 0,j,h => by simp [mpF] at h
  | n + 1,j,h => by
    simp only [mpF] at h
    have h0 := mpF_ahead ks key n j
    have h1 := mpF_le ks key n
    split at h
    · exact h0 h
    · split at h
      · exact h0 (by omega)
      · rename_i h2 h3
        by_cases hj : j = n
        · subst hj; exact h3
        · exact h0 (by omega)

theorem findNow_at (k : ByteArray) : ∀ (l : List MapEntry) (i0 m : Nat),m ≤ l.length → (∀ q,q < m → ∃ s,(l.getD q default).key = .string s ∧ s ≠ k) →
    (m < l.length → (l.getD m default).key = .string k) → Instr.findNow .string (.string k) l i0 = some (if m < l.length then some (i0 + m,(l.getD m default).val) else none)
  | [],i0,m,_,_,_ => by simp [Instr.findNow]
  | e :: l,i0,m,hm,h1,h2 => by
    cases m with
    | zero =>
      have h2 := h2 (by simp)
      simp only [List.getD_cons_zero] at h2
      have : Instr.sameNow .string (.string k) e.key = some true := by rw [h2]; simp [Instr.sameNow,(Go.MapKept.bytes_beq k k).2 rfl]
      simp [Instr.findNow,this]
    | succ m =>
      obtain ⟨s,e1,e2⟩ := h1 0 (by omega)
      simp only [List.getD_cons_zero] at e1
      have : Instr.sameNow .string (.string k) e.key = some false := by
        rw [e1]
        simp only [Instr.sameNow,Option.some.injEq]
        cases hb : k == s with
        | false => rfl
        | true => exact absurd ((Go.MapKept.bytes_beq k s).1 hb).symm e2
      have ih := findNow_at k l (i0 + 1) m (by simpa using hm) (fun q hq => by simpa using h1 (q + 1) (by omega)) (fun hl => by simpa using h2 (by simpa using hl))
      simp only [Instr.findNow,this,ih,List.length_cons,Nat.add_lt_add_iff_right,List.getD_cons_succ]
      split
      · simp; omega
      · rfl

section
variable {P : Program} {F : Nat → FuncId} {B np : Nat} {w0 w w' : World} {ext : List Nat} {σ0 : Sg} {G : Gh} {hp : Nat → Option (Bool × List D)} {tk : Nat → Option (Nat × Nat)}

theorem Mem.allocObj (m : Mem F B np w0 ext σ0 G hp tk w) (ob : Obj) :
    Mem F B np w0 ext σ0 { G with σ := withBlock G.σ w.heap.size (fun _ => none) } hp tk (w.alloc ob) := by
  have hle := withBlock_le m (fun _ => none)
  constructor
  · intro b o v h
    by_cases hb : b = w.heap.size
    · subst hb
      simp [withBlock] at h
    · simp only [withBlock,if_neg hb] at h
      obtain ⟨h1,c',e',fz',h2,h3⟩ := m.stab b o v h
      exact ⟨h1,c',e',fz',heap_alloc_some h2,h3⟩
  · intro b o hb
    have := m.base
    simp only [withBlock]
    rw [if_neg (by omega)]
    exact m.old b o hb
  · exact m.os
  · exact m.tape
  · exact m.output
  · have := m.base; simp; omega
  · intro b hb he
    rw [Go.heap_alloc_old w _ (r := b) (by have := m.base; omega)]
    exact m.keep b hb he
  · intro id cs h
    obtain ⟨o',h1,h3,h4⟩ := m.vars id cs h
    refine ⟨o',heap_alloc_some h1,h3.imp fun j v hj hr => hr.more hle,fun o => ?_⟩
    have := (Array.getElem?_eq_some_iff.1 h1).1
    simp only [withBlock]
    rw [if_neg (by omega)]
    exact h4 o
  · intro id cs h j hj
    obtain ⟨v,h1,h2,h3⟩ := m.froz id cs h j hj
    exact ⟨v,hle _ _ _ h1,h2.mono hle,h3⟩
  · intro i z n h
    obtain ⟨a,c',h1,h2,h3⟩ := m.toks i z n h
    refine ⟨a,c',h1,h2,fun hn => ?_⟩
    obtain ⟨b,cur,e',h4,h5,h6,h7⟩ := h3 hn
    refine ⟨b,cur,e',h4,heap_alloc_some h5,h6,fun o ho => ?_⟩
    have := (Array.getElem?_eq_some_iff.1 h5).1
    simp only [withBlock]
    rw [if_neg (by omega)]
    exact h7 o ho
  · exact m.own1
  · exact m.own2

def MapR (σ : Sg) (es : Array MapEntry) (va : Bool) (n : Nat) (ks : Nat → ByteArray) (vs : Nat → List D) : Prop :=
  es.size = n ∧ ∀ i (h : i < es.size),es[i].key = .string (ks i) ∧ CellsV σ va es[i].val (vs i)

theorem MapR.rc {es : Array MapEntry} {va : Bool} {n : Nat} {ks : Nat → ByteArray} {vs : Nat → List D} (h : MapR G.σ es va n ks vs) : Rc F G tk (.tuple #[.tuple (es.map (·.key)),.tuple (es.map (·.val))]) (.mp va n ks vs) := by
  obtain ⟨h1,h2⟩ := h
  refine .mp _ _ va n ks vs (by simp [h1]) (by simp [h1]) (fun i hi => ?_) (fun i hi => ?_)
  · have := (h2 i (by omega)).1
    simp [Array.getD,h1,hi,this]
  · have := (h2 i (by omega)).2
    simpa [Array.getD,h1,hi] using this

theorem Rc.mapR {es : Array MapEntry} {va : Bool} {n : Nat} {ks : Nat → ByteArray} {vs : Nat → List D} (h : Rc F G tk (.tuple #[.tuple (es.map (·.key)),.tuple (es.map (·.val))]) (.mp va n ks vs)) : MapR G.σ es va n ks vs := by
  cases h with
  | pure h _ => cases h
  | mp _ _ _ _ _ _ h1 h2 h3 h4 =>
    simp only [Array.size_map] at h1
    refine ⟨h1,fun i hi => ⟨?_,?_⟩⟩
    · have := h3 i (by omega)
      simpa [Array.getD,hi] using this
    · have := h4 i (by omega)
      simpa [Array.getD,hi] using this

theorem Rd.mref_inv {v : Value} {i : Nat} (h : Rd F G tk v (.mref i)) : v = .map (some (G.β i)) := by
  cases h with
  | any h => cases h with | cell h => cases h with | pure h _ => cases h
  | mref _ => rfl

theorem Mem.map (m : Mem F B np w0 ext σ0 G hp tk w) {i n : Nat} {va : Bool} {ks : Nat → ByteArray} {vs : Nat → List D} (h : hp i = some (false,[.dead,.mp va n ks vs])) : ∃ es clock,w.heap[G.β i]? = some (.map es clock) ∧ MapR G.σ es va n ks vs := by
  obtain ⟨o,h1,h2,_⟩ := m.vars i _ h
  rcases h2 with ⟨hs,_⟩ | ⟨_,_,_,h3⟩ | ⟨es,clock,va',n',ks',vs',rfl,h3,h4⟩
  · simp [solid] at hs
  · simp at h3
  · simp only [List.cons.injEq,D.mp.injEq,true_and,and_true] at h3
    obtain ⟨rfl,rfl,rfl,rfl⟩ := h3
    exact ⟨es,clock,h1,h4.mapR⟩

theorem cellsV_of {y : Value} {e : D} (h : Rd F G tk y e) (hs : solid e.cells = true) : CellsV G.σ e.isAgg y (pures e.cells) := by
  cases h with
  | tup => simp [D.cells,solid] at hs
  | mref => simp [D.cells,solid] at hs
  | any h =>
    cases h with
    | agg cs l h1 h2 =>
      refine .inl ⟨rfl,cs,rfl,by rw [D.cells,length_pures]; exact h1,fun j hj => ?_⟩
      rw [D.cells,length_pures] at hj
      rw [D.cells,nth_pures,pure1_pure1]
      exact (h2 j hj).pure1
    | cell h =>
      have key : e.isAgg = false ∧ e.cells = [e] := by
        cases h with
        | pure h _ => cases h <;> exact ⟨rfl,rfl⟩
        | _ => exact ⟨rfl,rfl⟩
      rw [key.1,key.2]
      exact .inr ⟨rfl,rfl,by simp only [pures,nth]; rw [pure1_pure1]; exact h.pure1⟩

theorem does_mkMap (m : Mem F B np w0 ext σ0 G hp tk w) {id nn : Nat} (hn : 0 < nn) (fr : Free hp tk id (id + nn)) (t : TypeId) (va : Bool) {v : D} {u : Upd}
    (hh : (outOf (.mkMap va) id hp tk []).holds v u) : Does F B np w0 ext σ0 G hp tk (((Instr.makeMap t none).run P w).andThen fun v w => .ok (.value v) w) id nn v u := by
  simp only [outOf] at hh
  obtain ⟨rfl,rfl⟩ := holds_ok hh
  have m1 := m.allocObj (.map #[] 0)
  have hle := withBlock_le m (fun _ => none)
  have hk : Keeps id (id + nn) G { σ := withBlock G.σ w.heap.size (fun _ => none),β := fun j => if j = id then w.heap.size else G.β j,ρ := G.ρ } tk tk :=
    ⟨hle,fun j hj => by simp only; rw [if_neg (by omega)],fun _ z m _ e => ⟨z,m,e,Nat.le_refl _,fun _ => rfl⟩⟩
  have m2 := m1.addObj id w.heap.size [.dead,.mp va 0 (fun _ => .empty) gnil] (.map #[] 0) (heap_alloc_new w _)
    (.inr (.inr ⟨#[],0,va,0,_,_,rfl,rfl,MapR.rc ⟨rfl,fun i hi => absurd hi (Nat.not_lt_zero _)⟩⟩)) (fun o => by simp [withBlock])
    (fun k hk => by have := m.own_lt (k := k) (b := w.heap.size) (by cases k <;> exact hk); omega) (.inl m.base) (fr.var ⟨Nat.le_refl _,by omega⟩)
    (fun id' f cs' h => names_sub (fr.hp id' f cs' h).2 (Nat.le_refl _) (by omega))
  refine ⟨_,.value (.map (some w.heap.size)),_,_,?_,.inl rfl,m2,?_,hk⟩
  · simp [Instr.makeMap]
  · have := Rd.mref (F := F) (G := { σ := withBlock G.σ w.heap.size (fun _ => none),β := fun j => if j = id then w.heap.size else G.β j,ρ := G.ρ }) (tk := tk) id
    simpa [updT] using this

theorem does_mapLen (m : Mem F B np w0 ext σ0 G hp tk w) {x : Value} {d : D} (hx : Rd F G tk x d) (id nn : Nat) {t ty k e : TypeId} (ht : P.underlying t = some (.map k e)) {v : D} {u : Upd}
    (hh : (outOf .mapLen id hp tk [d]).holds v u) : Does F B np w0 ext σ0 G hp tk (((Builtin.len_ #[t] ty #[x]).run P w).andThen fun v w => .ok (.value v) w) id nn v u := by
  cases d with
  | mref i =>
    simp only [outOf] at hh
    unfold lenOut at hh
    split at hh
    · rename_i va n ks vs hi
      obtain ⟨rfl,rfl⟩ := holds_val hh
      have := hx.mref_inv
      subst this
      obtain ⟨es,clock,h1,h2,_⟩ := m.map hi
      refine Does.val m (v := .int .i64 es.size) ?_ ?_ id nn
      · rw [h2]
        exact .any (.cell (.pure (.int _ _) trivial))
      · simp [Builtin.len_,run_underlying ht,MapKept.run_getObj_map h1,goInt]
    · exact (holds_bad hh).elim
  | _ => exact (holds_bad hh).elim

theorem MapR.find {σ : Sg} {es : Array MapEntry} {va : Bool} {n : Nat} {ks : Nat → ByteArray} {vs : Nat → List D} (h : MapR σ es va n ks vs) {kt : TypeId} (hk : P.underlying kt = some .string) (k : ByteArray) (w : World) :
    (Instr.findKey kt (.string k) es.toList).run P w = .ok (if h : mpF ks k n < es.size then some (mpF ks k n,(es[mpF ks k n]).val) else none) w := by
  obtain ⟨h1,h2⟩ := h
  have hg : ∀ q,q < es.size → (es.toList.getD q default) = es.getD q default := fun q hq => by simp [Array.getD,hq]
  have key := findNow_at k es.toList 0 (mpF ks k n) (by have := mpF_le ks k n; simpa [h1] using this) (fun q hq => by
    have hq' : q < es.size := by have := mpF_le ks k n; omega
    refine ⟨ks q,?_,mpF_ahead ks k n q hq⟩
    have := (h2 q hq').1
    simpa [hq'] using this) (fun hl => by
    have hl' : mpF ks k n < es.size := by simpa using hl
    have := (h2 _ hl').1
    rw [mpF_at ks k n (by omega)] at this
    simpa [hl'] using this)
  unfold Instr.findKey
  simp only [Sem.run_bind,run_underlying hk,Result.andThen_ok,key]
  by_cases hl : mpF ks k n < es.size
  · simp [hl]
  · simp [hl]

theorem MapR.set {σ : Sg} {es : Array MapEntry} {va : Bool} {n : Nat} {ks : Nat → ByteArray} {vs : Nat → List D} (h : MapR σ es va n ks vs) (k : ByteArray) {y : Value} {ds : List D} (hy : CellsV σ va y ds) (hf : mpF ks k n < es.size) :
    MapR σ (es.modify (mpF ks k n) fun e => { e with key := .string k,val := y }) va (mpN ks k n) (mpKs ks k n) (mpVs ks vs k ds n) := by
  obtain ⟨h1,h2⟩ := h
  refine ⟨by rw [mpN,if_pos (by omega)]; simp [h1],fun i hi => ?_⟩
  simp only [Array.size_modify] at hi
  rw [Array.getElem_modify]
  by_cases hj : mpF ks k n = i
  · rw [if_pos hj]
    simp only [mpKs,mpVs,hj,if_true]
    exact ⟨trivial,hy⟩
  · rw [if_neg hj]
    simp only [mpKs,mpVs]
    rw [if_neg (fun e => hj e.symm),if_neg (fun e => hj e.symm)]
    exact h2 i hi

theorem MapR.push {σ : Sg} {es : Array MapEntry} {va : Bool} {n : Nat} {ks : Nat → ByteArray} {vs : Nat → List D} (h : MapR σ es va n ks vs) (k : ByteArray) {y : Value} {ds : List D} (hy : CellsV σ va y ds) (hf : ¬ mpF ks k n < es.size) (clock : Nat) :
    MapR σ (es.push { key := .string k,val := y,born := clock }) va (mpN ks k n) (mpKs ks k n) (mpVs ks vs k ds n) := by
  obtain ⟨h1,h2⟩ := h
  have hn := mpF_le ks k n
  have hm : mpF ks k n = n := by omega
  refine ⟨by rw [mpN,if_neg (by omega)]; simp [h1],fun i hi => ?_⟩
  simp only [Array.size_push] at hi
  rw [Array.getElem_push]
  by_cases hj : i < es.size
  · rw [dif_pos hj]
    simp only [mpKs,mpVs]
    rw [if_neg (by omega),if_neg (by omega)]
    exact h2 i hj
  · rw [dif_neg hj]
    simp only [mpKs,mpVs]
    rw [if_pos (by omega),if_pos (by omega)]
    exact ⟨rfl,hy⟩

theorem sameBits_text (k : ByteArray) : Instr.sameBits 10000 (.string k) (.string k) = true := by
  show (k == k) = true
  exact (MapKept.bytes_beq k k).2 rfl

theorem does_mapSet (m : Mem F B np w0 ext σ0 G hp tk w) {x y z : Value} {d e f : D} (hx : Rd F G tk x d) (hy : Rd F G tk y e) (hz : Rd F G tk z f) (id nn : Nat) {t kt et : TypeId} (ht : P.underlying t = some (.map kt et)) (hkt : P.underlying kt = some .string) {v : D} {u : Upd}
    (hh : (outOf .mapSet id hp tk [d,e,f]).holds v u) : Does F B np w0 ext σ0 G hp tk (((Instr.mapUpdate t x y z).run P w).andThen fun _ w => .ok .skip w) id nn v u := by
  cases d with
  | mref i =>
    cases e with
    | str k =>
      simp only [outOf] at hh
      unfold setOut at hh
      split at hh
      · rename_i va n ks vs hi
        cases hb : (eqBB f.isAgg va && solid f.cells) with
        | false => rw [hb] at hh; exact (holds_bad hh).elim
        | true =>
          rw [hb] at hh
          obtain ⟨rfl,rfl⟩ := holds_ok hh
          have hb := andb hb
          have hva : f.isAgg = va := by
            have := hb.1
            cases hfa : f.isAgg <;> cases va <;> first | rfl | (rw [hfa] at this; cases this)
          have hc := cellsV_of hz hb.2
          rw [hva] at hc
          have e1 := hx.mref_inv
          have e2 := hy.str_inv
          subst e1 e2
          obtain ⟨es,clock,h1,h2⟩ := m.map hi
          have hfk := h2.find (P := P) hkt k w
          have hlt : G.β i < w.heap.size := (Array.getElem?_eq_some_iff.1 h1).1
          have wr : ∀ o : Obj,Wrote (G.β i) w { w with heap := w.heap.setIfInBounds (G.β i) o } := fun o => ⟨rfl,rfl,rfl,by simp,fun k hk => by simp [Ne.symm hk]⟩
          have at_ : ∀ o : Obj,({ w with heap := w.heap.setIfInBounds (G.β i) o } : World).heap[G.β i]? = some o := fun o => by simp [hlt]
          by_cases hf : mpF ks k n < es.size
          · rw [dif_pos hf] at hfk
            have hke : es[mpF ks k n].key = .string k := by
              rw [(h2.2 _ hf).1,mpF_at ks k n (by have := h2.1; omega)]
            refine ⟨_,.skip,undef,G,?_,.inr ⟨rfl,rfl⟩,m.setObj i _ [.dead,.mp va (mpN ks k n) (mpKs ks k n) (mpVs ks vs k (pures f.cells) n)] hi (.map (es.modify (mpF ks k n) fun e => { e with key := .string k,val := z }) clock) (wr _) (at_ _)
              (.inr (.inr ⟨_,_,_,_,_,_,rfl,rfl,(h2.set k hc hf).rc⟩)),Rd.dead _,Keeps.refl _ _ _ _⟩
            unfold Instr.mapUpdate
            simp only [Sem.run_bind,run_underlying ht,Result.andThen_ok,MapKept.run_getObj_map h1,MapKept.run_checkKey (k := .string k) hkt trivial,hfk]
            simp only [Instr.keyThatStays,hf,Array.getElem?_eq_getElem,Option.map_some,Option.getD_some,hke,sameBits_text,if_true,Sem.run_pure,Result.andThen_ok,MapKept.run_setObj_map _ h1,Sem.run_bind]
          · rw [dif_neg hf] at hfk
            refine ⟨_,.skip,undef,G,?_,.inr ⟨rfl,rfl⟩,m.setObj i _ [.dead,.mp va (mpN ks k n) (mpKs ks k n) (mpVs ks vs k (pures f.cells) n)] hi (.map (es.push { key := .string k,val := z,born := clock }) (clock + 1)) (wr _) (at_ _)
              (.inr (.inr ⟨_,_,_,_,_,_,rfl,rfl,(h2.push k hc hf clock).rc⟩)),Rd.dead _,Keeps.refl _ _ _ _⟩
            unfold Instr.mapUpdate
            simp only [Sem.run_bind,run_underlying ht,Result.andThen_ok,MapKept.run_getObj_map h1,MapKept.run_checkKey (k := .string k) hkt trivial,hfk]
            simp only [MapKept.run_setObj_map _ h1,Result.andThen_ok]
      · exact (holds_bad hh).elim
    | _ => exact (holds_bad hh).elim
  | _ => exact (holds_bad hh).elim

theorem getVal_rd {σ : Sg} (hσ : G.σ = σ) {va : Bool} {v : Value} {ds : List D} (h : CellsV σ va v ds) (comma ok : Bool) : Rd F G tk (if comma then .tuple #[v,.bool ok] else v) (getVal comma va ok ds) := by
  subst hσ
  have hrt : Rt F G tk v (mkv va (pures ds)) ∧ Ra F G tk v (mkv va (pures ds)) := by
    rcases h with ⟨rfl,cs,rfl,h2,h3⟩ | ⟨rfl,h2,h3⟩
    · have hj : ∀ j,j < (pures ds).length → Rp G.σ (cs.getD j undef) (nth (pures ds) j .dead) ∧ nth (pures ds) j .dead = (nth (pures ds) j .dead).pure1 := fun j hj => by
        rw [length_pures] at hj
        rw [nth_pures]
        exact ⟨h3 j hj,(pure1_pure1 _).symm⟩
      refine ⟨.agg cs _ (by rw [length_pures]; exact h2) hj,.agg cs _ (by rw [length_pures]; exact h2) fun j hj' => ?_⟩
      rw [(hj j hj').2]
      exact .pure ((hj j hj').2 ▸ (hj j hj').1) (tagR_pure1 _ _)
    · have : mkv false (pures ds) = (nth ds 0 .dead).pure1 := by
        simp only [mkv,cond_false]
        rw [nth_pures]
      rw [this]
      exact ⟨.cell (.pure h3 (tagR_pure1 _ _)),.cell (.pure h3 (tagR_pure1 _ _))⟩
  cases comma with
  | false => simpa [getVal] using Rd.any hrt.2
  | true =>
    simp only [getVal,if_true,cond_true]
    refine .tup _ _ (by simp) fun j hj => ?_
    rcases j with _ | _ | j
    · simpa [nth] using hrt.1
    · simpa [nth] using Rt.cell (.pure (.bool ok) trivial)
    · simp at hj; omega

theorem zeroV_cells {t : TypeId} {va : Bool} {l : List D} (h : zeroV P t = some (va,l)) (σ : Sg) : ∃ i zv,P.info? t = some i ∧ i.zero = some zv ∧ CellsV σ va zv l := by
  unfold zeroV at h
  cases hi : P.info? t with
  | none => simp [hi] at h
  | some i =>
    simp only [hi] at h
    cases hz : i.zero with
    | none => simp [hz] at h
    | some zv =>
      simp only [hz] at h
      refine ⟨i,zv,rfl,hz,?_⟩
      have other : (ofCell zv).map (fun d => (false,zsets [d] (sliceZ P 20 t))) = some (va,l) → CellsV σ va zv l := by
        intro h
        rw [Option.map_eq_some_iff] at h
        obtain ⟨d,h1,h2⟩ := h
        cases h2
        have hc : ofCells [zv] = some [d] := by simp [ofCells,h1]
        obtain ⟨_,h3⟩ := ofCells_rc (F := fun _ => 0) (G := ⟨σ,fun _ => 0,fun _ => undef⟩) (tk := fun _ => none) hc
        refine .inr ⟨rfl,by rw [length_zsets]; rfl,?_⟩
        have := zsets_rc h3 (sliceZ P 20 t) 0 (by rw [length_zsets]; simp)
        exact this.pure1
      cases zv with
      | agg cs =>
        simp only [Option.map_eq_some_iff] at h
        obtain ⟨l',h1,h2⟩ := h
        cases h2
        obtain ⟨h2,h3⟩ := ofCells_rc (F := fun _ => 0) (G := ⟨σ,fun _ => 0,fun _ => undef⟩) (tk := fun _ => none) h1
        refine .inl ⟨rfl,cs,rfl,by rw [length_zsets,← h2]; simp,fun j hj => ?_⟩
        have := zsets_rc h3 (sliceZ P 20 t) j hj
        rw [← getD_toList] at this
        exact this.pure1
      | _ => exact other h

theorem does_mapGet (m : Mem F B np w0 ext σ0 G hp tk w) {x y : Value} {d e : D} (hx : Rd F G tk x d) (hy : Rd F G tk y e) (id nn : Nat) {t kt et : TypeId} (ht : P.underlying t = some (.map kt et)) (hkt : P.underlying kt = some .string) (comma : Bool) {va : Bool} {zero : List D} (hz : zeroV P et = some (va,zero)) {v : D} {u : Upd}
    (hh : (outOf (.mapGet comma va zero) id hp tk [d,e]).holds v u) : Does F B np w0 ext σ0 G hp tk (((Instr.lookup t x y comma).run P w).andThen fun v w => .ok (.value v) w) id nn v u := by
  cases d with
  | mref i =>
    cases e with
    | str k =>
      simp only [outOf] at hh
      unfold getOut at hh
      split at hh
      · rename_i va' n ks vs hi
        cases hb : eqBB va' va with
        | false => rw [hb] at hh; exact (holds_bad hh).elim
        | true =>
          rw [hb] at hh
          simp only [cond_true] at hh
          have hva : va' = va := by cases va' <;> cases va <;> first | rfl | cases hb
          subst hva
          have e1 := hx.mref_inv
          have e2 := hy.str_inv
          subst e1 e2
          obtain ⟨es,clock,h1,h2⟩ := m.map hi
          have hfk := h2.find (P := P) hkt k w
          rcases holds_alt hh with ⟨hc,rfl,rfl⟩ | ⟨hc,rfl,rfl⟩
          · have hf : mpF ks k n < es.size := by rw [h2.1]; simpa using hc
            rw [dif_pos hf] at hfk
            refine Does.val m (getVal_rd rfl (h2.2 _ hf).2 comma true) ?_ id nn
            unfold Instr.lookup
            simp only [Sem.run_bind,run_underlying ht,Result.andThen_ok,MapKept.run_getObj_map h1,Sem.run_pure,MapKept.run_checkKey (k := .string k) hkt trivial,hfk]
          · have hf : ¬ mpF ks k n < es.size := by rw [h2.1]; simpa using hc
            rw [dif_neg hf] at hfk
            obtain ⟨i',zv,hi',hzv,hcz⟩ := zeroV_cells hz G.σ
            refine Does.val m (getVal_rd rfl hcz comma false) ?_ id nn
            unfold Instr.lookup
            simp only [Sem.run_bind,run_underlying ht,Result.andThen_ok,MapKept.run_getObj_map h1,Sem.run_pure,MapKept.run_checkKey (k := .string k) hkt trivial,hfk]
            have hzr : (zeroValue et).run P w = .ok zv w := by simp [zeroValue,typeInfo,program,Sem.run,hi',hzv]
            simp only [hzr,Result.andThen_ok,Sem.run_bind,Sem.run_pure]
      · exact (holds_bad hh).elim
    | _ => exact (holds_bad hh).elim
  | _ => exact (holds_bad hh).elim

end
end Go.Abs

/- Each operation that is no call,as the code has it. -/
namespace Go.Abs
open Go

section
variable {P : Program} {F : Nat → FuncId} {B np : Nat} {w0 w w' : World} {ext : List Nat} {σ0 : Sg} {G : Gh} {hp : Nat → Option (Bool × List D)} {tk : Nat → Option (Nat × Nat)}

theorem does_iterStr (m : Mem F B np w0 ext σ0 G hp tk w) {x : Value} {d : D} (hx : Rd F G tk x d) {id nn : Nat} (hn : 0 < nn) (fr : Free hp tk id (id + nn)) {t : TypeId} (ht : P.underlying t = some .string) {v : D} {u : Upd}
    (hh : (outOf .iterStr id hp tk [d]).holds v u) : Does F B np w0 ext σ0 G hp tk (((Instr.range t x).run P w).andThen fun v w => .ok (.value v) w) id nn v u := by
  cases d with
  | str s =>
    simp only [outOf] at hh
    obtain ⟨rfl,rfl⟩ := holds_ok hh
    have := hx.str_inv
    subst this
    have m1 := m.allocObj (.stringIter s 0)
    have hle := withBlock_le m (fun _ => none)
    have hk : Keeps id (id + nn) G { σ := withBlock G.σ w.heap.size (fun _ => none),β := fun j => if j = id then w.heap.size else G.β j,ρ := G.ρ } tk tk :=
      ⟨hle,fun j hj => by simp only; rw [if_neg (by omega)],fun _ z m _ e => ⟨z,m,e,Nat.le_refl _,fun _ => rfl⟩⟩
    have m2 := m1.addObj id w.heap.size [.dead,.str s,.int .i64 0] (.stringIter s 0) (heap_alloc_new w _) (.inr (.inl ⟨s,0,rfl,rfl⟩)) (fun o => by simp [withBlock])
      (fun k hk => by have := m.own_lt (k := k) (b := w.heap.size) (by cases k <;> exact hk); omega) (.inl m.base) (fr.var ⟨Nat.le_refl _,by omega⟩)
      (fun id' f cs' h => names_sub (fr.hp id' f cs' h).2 (Nat.le_refl _) (by omega))
    refine ⟨_,_,_,_,?_,.inl rfl,m2,.any (.cell (.ptr id 0)),hk⟩
    rw [run_range_string w t s ht]
    simp [World.iter]
  | _ => exact (holds_bad hh).elim

theorem does_nextStr (m : Mem F B np w0 ext σ0 G hp tk w) {x : Value} {d : D} (hx : Rd F G tk x d) (id nn : Nat) (ty : TypeId) {v : D} {u : Upd}
    (hh : (outOf .nextStr id hp tk [d]).holds v u) : Does F B np w0 ext σ0 G hp tk (((Instr.next x true ty).run P w).andThen fun v w => .ok (.value v) w) id nn v u := by
  cases d with
  | ptr i o =>
    cases o with
    | succ o => exact (holds_bad hh).elim
    | zero =>
      simp only [outOf] at hh
      unfold nextOut at hh
      split at hh
      · rename_i s p hi
        have hxx := hx.ptr_inv
        subst hxx
        obtain ⟨ob,hb,hob,hσ⟩ := m.vars i _ hi
        rcases hob with ⟨h1,_⟩ | ⟨s',pos,rfl,h1⟩ | ⟨_,_,_,_,_,_,_,h1,_⟩
        rotate_right
        · simp at h1
        · simp [solid] at h1
        · simp only [List.cons.injEq,D.str.injEq,D.int.injEq,true_and,and_true] at h1
          obtain ⟨rfl,rfl⟩ := h1
          rcases holds_alt hh with ⟨hc,rfl,rfl⟩ | ⟨hc,rfl,rfl⟩
          · have hlt : pos < s.size := by
              simp only [Bool.and_eq_true,decide_eq_true_eq] at hc
              omega
            refine ⟨w.iterAt (G.β i) s (pos + (Utf8.decode s pos).2),_,_,G,?_,.inl rfl,m.setObj i _ _ hi (.stringIter s (pos + (Utf8.decode s pos).2)) ⟨rfl,rfl,rfl,Lib.iterAt_size _ _ _ _,fun k hk => Lib.iterAt_other _ _ _ _ _ hk⟩
              (Lib.iterAt_heap w (G.β i) s pos _ hb) (.inr (.inl ⟨s,_,rfl,?_⟩)),.tup #[.bool true,.int .i64 pos,.int .i32 (Utf8.decode s pos).1] _ (by simp) ?_,Keeps.refl _ _ _ _⟩
            · rw [Lib.run_next_any_at w (G.β i) s pos ty hb hlt]
              rfl
            · simp
            · intro j hj
              simp only [Int.toNat_natCast]
              rcases j with _ | _ | _ | j
              · exact .cell (.pure (.bool _) trivial)
              · exact .cell (.pure (.int _ _) trivial)
              · exact .cell (.pure (.int _ _) trivial)
              · exfalso; simp only [List.length_cons,List.length_nil] at hj; omega
          · have hlt : ¬ pos < s.size := by
              intro h
              simp only [Bool.and_eq_false_iff,decide_eq_false_iff_not] at hc
              omega
            refine ⟨w,_,_,G,?_,.inl rfl,m,.tup #[.bool false] _ (by simp) ?_,Keeps.refl _ _ _ _⟩
            · rw [Lib.run_next_end_at w (G.β i) s pos ty hb hlt]
              rfl
            · intro j hj
              rcases j with _ | j
              · exact .cell (.pure (.bool _) trivial)
              · exfalso; simp only [List.length_cons,List.length_nil] at hj; omega
      · exact (holds_bad hh).elim
  | _ => exact (holds_bad hh).elim
end

section
variable {P : Program} {F : Nat → FuncId} {B np : Nat} {w0 w w' : World} {ext : List Nat} {σ0 : Sg} {G G' : Gh} {s : St} {a : Act} {ft : FT}

abbrev Turned (P : Program) (F : Nat → FuncId) (B np : Nat) (w0 : World) (ext : List Nat) (σ0 : Sg) (G : Gh) (s : St) (w : World) (run : Result Next) (tr : Option (AOp × List AX)) : Prop :=
  ∀ ao xs,tr = some (ao,xs) → isCall ao = false → ∀ id,Clean id (id + idsOf ao) s → ∀ v u,(outOf ao id s.hp s.tk (evs s.fr xs)).holds v u → Does F B np w0 ext σ0 G s.hp s.tk run id (idsOf ao) v u

theorem isNilPtr_eq {y : Operand} (h : isNilPtr y = true) : y = .const (.pointer none) := by
  unfold isNilPtr at h
  split at h
  · rfl
  · cases h

theorem trNil_some {op : BinOp} {p b : Bool} {a c : AX} {ao : AOp} {xs : List AX} (h : trNil op p b [a,c] = some (ao,xs)) : ∃ neg,op = (if neg then .neq else .eql) ∧ ao = .isNil p neg ∧ xs = [a] ∧ b = true := by
  simp only [trNil] at h
  cases b with
  | false => cases h
  | true =>
    simp only [cond_true] at h
    split at h
    · cases h; exact ⟨false,rfl,rfl,rfl,rfl⟩
    · cases h; exact ⟨true,rfl,rfl,rfl,rfl⟩
    · cases h

theorem mapZ_some {t : TypeId} {g : Bool} {z : List D} (h : mapZ P t = some (g,z)) : ∃ k e,P.underlying t = some (.map k e) ∧ P.underlying k = some .string ∧ zeroV P e = some (g,z) := by
  unfold mapZ at h
  split at h
  · rename_i k e hu
    split at h
    · rename_i hk
      exact ⟨k,e,hu,hk,h⟩
    · cases h
  · cases h

section ops
variable (hft : ∀ f j,ag ft f = some j → F j = f) (r : Rel F B np w0 ext σ0 G s a w)
  include hft r

theorem t_move (ty : TypeId) (x : Operand) : Turned P F B np w0 ext σ0 G s w (.ok (.value (a.eval x)) w) (trMove P ft ty x) := by
  intro ao xs ht _ id hcl v u hh
  unfold trMove at ht
  split at ht
  · rename_i hx
    have := isNilSlice_eq hx
    subst this
    rw [Option.map_eq_some_iff] at ht
    obtain ⟨z,_,h⟩ := ht
    cases h
    exact does_nilSl r.mem (by simp [idsOf]) hcl.free z hh
  · rw [Option.map_eq_some_iff] at ht
    obtain ⟨ax,h1,h⟩ := ht
    cases h
    exact does_move r.mem (trZ_rd (ev_rd hft r h1) _) _ _ hh

theorem t_alloc (t : TypeId) : Turned P F B np w0 ext σ0 G s w (((Instr.alloc t true (.tuple #[])).run P w).andThen fun v w => .ok (.value v) w) (trAlloc P t) := by
  have _ := hft
  intro ao xs ht _ id hcl v u hh
  unfold trAlloc at ht
  split at ht
  · rename_i ds n hz hs
    split at ht
    · cases ht
      obtain ⟨i,zv,hi,hzv,hds⟩ := zeroT_some hz
      exact does_alloc r.mem t hi hzv hds _ rfl (ownZ_len _ _) hcl.free hh
    · cases ht
  · cases ht

theorem t_build (t : TypeId) (parts : Array (Nat × Operand)) : Turned P F B np w0 ext σ0 G s w (((Instr.build t (parts.map fun (i,x) => (i,a.eval x))).run P w).andThen fun v w => .ok (.value v) w) (trBuild P ft t parts) := by
  intro ao xs ht _ id hcl v u hh
  unfold trBuild at ht
  split at ht
  · rename_i fs z l hu hz hx
    split at ht
    · rename_i hsz
      rw [Option.map_eq_some_iff] at ht
      obtain ⟨qs,h1,h⟩ := ht
      cases h
      obtain ⟨i,zv,hi,hzv,hds⟩ := zeroT_some hz
      obtain ⟨places,h2,h3⟩ := sized_places fs.toList hsz
      refine does_build (place := (places.toArray[·]?)) r.mem _ qs _ hi hzv hds (fun cells hf => ?_) ?_ hh
      · simp only [Program.built,hi,hu,hzv,h2]
        exact hf
      · rw [Array.toList_map]
        refine parts_rel hft r (fun i q hq => ?_) parts.toList qs _ h1 hx
        have := h3 i
        simp only [List.getElem?_toArray]
        rw [this,← hq,Array.getElem?_toList]
        all_goals (cases fs[i]? <;> rfl)
    · cases ht
  · rename_i n e z l hu hz hx
    split at ht
    · rename_i n hn
      rw [Option.map_eq_some_iff] at ht
      obtain ⟨qs,h1,h⟩ := ht
      cases h
      obtain ⟨i,zv,hi,hzv,hds⟩ := zeroT_some hz
      obtain ⟨ie,hie,rfl⟩ := sizeT_some hn
      have hpr : PartsR F G s.tk (fun k => some (k * ie.size,ie.size)) (parts.map fun (i,x) => (i,a.eval x)).toList qs (evs s.fr xs) := by
        rw [Array.toList_map]
        exact parts_rel hft r (fun i q hq => hq) parts.toList qs xs h1 hx
      have hbu : ∀ cells,Instr.fill (fun k => some (k * ie.size,ie.size)) zv.cells (parts.map fun (i,x) => (i,a.eval x)).toList = some cells → P.built t (parts.map fun (i,x) => (i,a.eval x)).toList = some cells := by
        intro cells hf
        simp only [Program.built,hi,hu,hzv,hie]
        exact hf
      exact does_build r.mem _ qs (evs s.fr xs) hi hzv hds hbu hpr hh
    · cases ht
  · cases ht

theorem t_buildSlice (t : TypeId) (len : Nat) (parts : Array (Nat × Operand)) : Turned P F B np w0 ext σ0 G s w (((Instr.buildSlice t len (parts.map fun (i,x) => (i,a.eval x))).run P w).andThen fun v w => .ok (.value v) w) (trBuildSlice P ft t len parts) := by
  intro ao xs ht _ id hcl v u hh
  unfold trBuildSlice at ht
  split at ht
  · rename_i e l hu hx
    split at ht
    · rename_i n z hs hz
      split at ht
      · rename_i hb
        rw [Option.map_eq_some_iff] at ht
        obtain ⟨qs,h1,h⟩ := ht
        cases h
        obtain ⟨i,zv,hi,hzv,hds⟩ := zeroT_some hz
        obtain ⟨i',hi',rfl⟩ := sizeT_some hs
        rw [hi] at hi'
        cases hi'
        have hpr : PartsR F G s.tk (fun k => some (k * i.size,i.size)) (parts.map fun (i,x) => (i,a.eval x)).toList qs (evs s.fr xs) := by
          rw [Array.toList_map]
          exact parts_rel hft r (fun i q hq => hq) parts.toList qs xs h1 hx
        exact does_buildSlice r.mem _ qs (evs s.fr xs) hu hi hzv hds hb.2 hb.1 hpr hh
      · cases ht
    · cases ht
  · cases ht

theorem t_load (t : TypeId) (x : Operand) : Turned P F B np w0 ext σ0 G s w (((Instr.loadAt t (a.eval x)).run P w).andThen fun v w => .ok (.value v) w) (trLoad P ft t x) := by
  intro ao xs ht _ id hcl v u hh
  unfold trLoad at ht
  split at ht
  · rename_i ax g n h1 h2 h3
    split at ht
    · rename_i hgn
      cases ht
      exact does_load r.mem (ev_rd hft r h1) _ _ h2 h3 hgn hh
    · cases ht
  · cases ht

theorem t_store (t : TypeId) (x y : Operand) : Turned P F B np w0 ext σ0 G s w (((Instr.storeAt t (a.eval x) (a.eval y)).run P w).andThen fun _ w => .ok .skip w) (trStore P ft t x y) := by
  intro ao xs ht _ id hcl v u hh
  unfold trStore at ht
  split at ht
  · rename_i ax ay n h1 h2 h3
    cases ht
    exact does_store r.mem (ev_rd hft r h1) (trZ_rd (ev_rd hft r h2) _) _ _ h3 hh
  · cases ht

theorem t_fieldAddr (st : TypeId) (x : Operand) (f : Nat) : Turned P F B np w0 ext σ0 G s w (((Instr.fieldAt st (a.eval x) f).run P w).andThen fun v w => .ok (.value v) w) (trFieldAddr P ft st x f) := by
  intro ao xs ht _ id hcl v u hh
  unfold trFieldAddr at ht
  split at ht
  · rename_i fs ax hu h1
    split at ht
    · rename_i fl hf
      split at ht
      · rename_i n hn
        split at ht
        · cases ht
        · rename_i h0
          cases ht
          exact does_fieldAddr r.mem (ev_rd hft r h1) _ _ hu hf hn h0 hh
      · cases ht
    · cases ht
  · cases ht

theorem t_field (st : TypeId) (x : Operand) (f : Nat) : Turned P F B np w0 ext σ0 G s w (((Instr.field st (a.eval x) f).run P w).andThen fun v w => .ok (.value v) w) (trField P ft st x f) := by
  intro ao xs ht _ id hcl v u hh
  unfold trField at ht
  split at ht
  · rename_i fs ax hu h1
    split at ht
    · rename_i fl hf
      split at ht
      · rename_i g n hg hn
        split at ht
        · rename_i hgn
          cases ht
          exact does_field r.mem (ev_rd hft r h1) _ _ hu hf hg hn hgn hh
        · cases ht
      · cases ht
    · cases ht
  · cases ht

theorem t_indexAddr (t : TypeId) (x i : Operand) : Turned P F B np w0 ext σ0 G s w (((Instr.indexAt t (a.eval x) (a.eval i)).run P w).andThen fun v w => .ok (.value v) w) (trIndexAddr P ft t x i) := by
  intro ao xs ht _ id hcl v u hh
  unfold trIndexAddr at ht
  split at ht
  · rename_i e ax ai hu h1 h2
    rw [Option.map_eq_some_iff] at ht
    obtain ⟨k,hk,h⟩ := ht
    cases h
    exact does_indexAddr_slice r.mem (ev_rd hft r h1) (ev_rd hft r h2) _ _ hu hk hh
  · rename_i len e ax ai hu h1 h2
    rw [Option.map_eq_some_iff] at ht
    obtain ⟨k,hk,h⟩ := ht
    cases h
    exact does_indexAddr_arr r.mem (ev_rd hft r h1) (ev_rd hft r h2) _ _ hu hk hh
  · cases ht

theorem t_index (t : TypeId) (x i : Operand) : Turned P F B np w0 ext σ0 G s w (((Instr.index t (a.eval x) (a.eval i)).run P w).andThen fun v w => .ok (.value v) w) (trIndex P ft t x i) := by
  intro ao xs ht _ id hcl v u hh
  unfold trIndex at ht
  split at ht
  · rename_i ax ai hu h1 h2
    cases ht
    exact does_indexStr r.mem (ev_rd hft r h1) (ev_rd hft r h2) _ _ hu hh
  · rename_i len e ax ai hu h1 h2
    split at ht
    · rename_i g n hg hn
      split at ht
      · rename_i hgn
        cases ht
        exact does_indexArr r.mem (ev_rd hft r h1) (ev_rd hft r h2) _ _ hu hg hn hgn hh
      · cases ht
    · cases ht
  · cases ht

theorem t_slice (t : TypeId) (x : Operand) (lo hi mx : Option Operand) : Turned P F B np w0 ext σ0 G s w (((Instr.sliceAt t (a.eval x) (lo.map a.eval) (hi.map a.eval) (mx.map a.eval)).run P w).andThen fun v w => .ok (.value v) w) (trSlice P ft np t x lo hi mx) := by
  intro ao xs ht _ id hcl v u hh
  unfold trSlice at ht
  split at ht
  · rename_i e ax l hu h1 hl
    obtain ⟨l1,hl1,o1⟩ := trOX_op1 hft r hl
    obtain ⟨l2,hl2,o2⟩ := trOX_op1 hft r hl1
    obtain ⟨l3,hl3,o3⟩ := trOX_op1 hft r hl2
    have := trOX_nil hl3
    subst this
    split at ht
    · cases ht
    · rename_i hmx
      rw [Option.map_eq_some_iff] at ht
      obtain ⟨k,hk,h⟩ := ht
      cases h
      refine does_sliceSl r.mem (ev_rd hft r h1) o1 o2 o3 (fun h => ?_) _ _ hu hk hh
      cases hi <;> simp_all
  · rename_i ax l hu h1 hl
    obtain ⟨l1,hl1,o1⟩ := trOX_op1 hft r hl
    obtain ⟨l2,hl2,o2⟩ := trOX_op1 hft r hl1
    obtain ⟨l3,hl3,o3⟩ := trOX_op1 hft r hl2
    have := trOX_nil hl3
    subst this
    split at ht
    · cases ht
    · rename_i hmx
      cases ht
      have hm0 : mx = none := by cases mx <;> simp_all
      subst hm0
      have e2 : evs s.fr l2 = [] := by
        have : l2 = [] := by simpa [trOX] using hl2.symm
        rw [this]
        rfl
      rw [e2] at o2
      exact does_sliceStr r.mem (ev_rd hft r h1) o1 o2 _ _ hu hh
  · rename_i len e ax l hu h1 hl
    split at ht
    · rename_i hno
      rw [Option.map_eq_some_iff] at ht
      obtain ⟨k,hk,h⟩ := ht
      cases h
      simp only [Bool.and_eq_true,Option.isNone_iff_eq_none] at hno
      obtain ⟨⟨rfl,rfl⟩,rfl⟩ := hno
      exact does_sliceArr r.mem (ev_rd hft r h1) _ _ hu hk hh
    · cases ht
  · cases ht

theorem t_bin (op : BinOp) (t : TypeId) (x y : Operand) : Turned P F B np w0 ext σ0 G s w (((do eqGuard op t x y (a.eval x) (a.eval y); binOp op t (a.eval x) (a.eval y) : Sem Value).run P w).andThen fun v w => .ok (.value v) w) (trBin P ft op t x y) := by
  intro ao xs ht _ id hcl v u hh
  unfold trBin at ht
  split at ht
  · rename_i l hx
    obtain ⟨p,q,rfl,e1,e2⟩ := trXs2 hx
    have agg : isAggT P t = some true → trEq P op t [p,q] = some (ao,xs) → Does F B np w0 ext σ0 G s.hp s.tk (((do eqGuard op t x y (a.eval x) (a.eval y); binOp op t (a.eval x) (a.eval y) : Sem Value).run P w).andThen fun v w => .ok (.value v) w) id (idsOf ao) v u := by
      intro hag h
      unfold trEq at h
      split at h
      · rename_i n hn
        split at hn
        · cases hn
        · rename_i hg
          split at h
          · cases h
            exact does_eqAgg r.mem (ev_rd hft r e1) (ev_rd hft r e2) _ _ false (by simpa using hg) hn hag hh
          · cases h
      · rename_i n hn
        split at hn
        · cases hn
        · rename_i hg
          split at h
          · cases h
            exact does_eqAgg r.mem (ev_rd hft r e1) (ev_rd hft r e2) _ _ true (by simpa using hg) hn hag hh
          · cases h
      · cases h
    split at ht
    · rename_i fs hu
      exact agg (by simp [isAggT,hu]) ht
    · rename_i n e hu
      exact agg (by simp [isAggT,hu]) ht
    · rename_i hu
      split at ht
      · cases ht
        exact does_binB r.mem (ev_rd hft r e1) (ev_rd hft r e2) _ _ false hu (ox := x) (oy := y) hh
      · cases ht
        exact does_binB r.mem (ev_rd hft r e1) (ev_rd hft r e2) _ _ true hu (ox := x) (oy := y) hh
      · cases ht
    · cases ht
      exact does_bin r.mem (ev_rd hft r e1) (ev_rd hft r e2) _ _ op (t := t) (ox := x) (oy := y) hh
    · cases ht
      exact does_bin r.mem (ev_rd hft r e1) (ev_rd hft r e2) _ _ op (t := t) (ox := x) (oy := y) hh
    · rename_i e hu
      obtain ⟨neg,rfl,rfl,rfl,hy⟩ := trNil_some ht
      have := isNilSlice_eq hy
      subst this
      exact does_isNilS r.mem (ev_rd hft r e1) _ _ neg hu (ox := x) (oy := .const (.slice none 0 0)) hh
    · rename_i e hu
      obtain ⟨neg,rfl,rfl,rfl,hy⟩ := trNil_some ht
      have := isNilPtr_eq hy
      subst this
      exact does_isNilP r.mem (ev_rd hft r e1) _ _ neg hu (ox := x) (oy := .const (.pointer none)) hh
    · cases ht
  · cases ht

theorem t_conv (src dst : TypeId) (x : Operand) : Turned P F B np w0 ext σ0 G s w (((convert src dst (a.eval x)).run P w).andThen fun v w => .ok (.value v) w) (trConv P ft src dst x) := by
  intro ao xs ht _ id hcl v u hh
  unfold trConv at ht
  split at ht
  · rename_i ks kd ax hs hd h1
    cases ht
    exact does_convInt r.mem (ev_rd hft r h1) _ _ hs hd hh
  · rename_i ax hs hd h1
    cases ht
    exact does_convStr r.mem (ev_rd hft r h1) _ _ hs hd hh
  · rename_i k ax hs hd h1
    cases ht
    exact does_convRune r.mem (ev_rd hft r h1) _ _ hs hd hh
  · rename_i e ax hs hd h1
    split at ht
    · rename_i he
      cases ht
      exact does_s2b r.mem (ev_rd hft r h1) _ _ hs hd he hh
    · cases ht
  · rename_i e ax hs hd h1
    split at ht
    · rename_i he
      cases ht
      exact does_b2s r.mem (ev_rd hft r h1) _ _ hs he hd hh
    · cases ht
  · cases ht

theorem t_makeFunc (fn : Fn) (first caps : Array Operand) : Turned P F B np w0 ext σ0 G s w (.ok (.value (.func fn (first.map a.eval) (caps.map a.eval))) w) (trMakeFunc ft np fn first caps) := by
  intro ao xs ht _ id hcl v u hh
  unfold trMakeFunc at ht
  split at ht
  · rename_i f
    split at ht
    · rename_i hemp
      split at ht
      · rename_i j cs hj hcs
        cases ht
        obtain ⟨h1,h2,h3⟩ := evs_rd hft r hcs
        have := hft f j hj
        subst this
        have hd := does_mkfunc r.mem (evs s.fr xs) (caps.map a.eval) (by rw [h2,← h1]; simp) (fun k hk => by
          have := h3 k (by omega)
          rw [getD_toList,Array.toList_map]
          exact this) id (idsOf (.mkfunc j np)) j hh
        have hf : first.map a.eval = #[] := by
          have : first = #[] := by simpa using hemp
          subst this
          simp
        rw [hf]
        exact hd
      · cases ht
    · cases ht
  · cases ht

theorem t_makeSlice (t : TypeId) (l c : Operand) : Turned P F B np w0 ext σ0 G s w (((Instr.makeSlice t (a.eval l) (a.eval c)).run P w).andThen fun v w => .ok (.value v) w) (trMakeSlice P ft t l c) := by
  intro ao xs ht _ id hcl v u hh
  unfold trMakeSlice at ht
  split at ht
  · rename_i e hu
    split at ht
    · rename_i i z as hi hz hx
      split at ht
      · rename_i hb
        cases ht
        obtain ⟨p,q,rfl,e1,e2⟩ := trXs2 hx
        obtain ⟨i',zv,hi',hzv,hds⟩ := zeroT_some hz
        rw [hi] at hi'
        cases hi'
        exact does_makeSlice r.mem (ev_rd hft r e1) (ev_rd hft r e2) (by simp [idsOf]) hcl.free hu hi hzv hds hb.2.1 hb.1 hb.2.2 hh
      · cases ht
    · cases ht
  · cases ht

theorem t_len (x : Operand) (t ty : TypeId) : Turned P F B np w0 ext σ0 G s w (((Builtin.len_ #[t] ty #[a.eval x]).run P w).andThen fun v w => .ok (.value v) w) (trLen P ft x t) := by
  intro ao xs ht _ id hcl v u hh
  unfold trLen at ht
  split at ht
  · rename_i e ax hu h1
    cases ht
    exact does_len r.mem (ev_rd hft r h1) _ _ hh ⟨_,hu⟩
  · rename_i ax hu h1
    cases ht
    exact does_len r.mem (ev_rd hft r h1) _ _ hh hu
  · rename_i k e ax hu h1
    cases ht
    exact does_mapLen r.mem (ev_rd hft r h1) _ _ hu hh
  · cases ht

theorem t_append (x y : Operand) (t u' ty : TypeId) : Turned P F B np w0 ext σ0 G s w (((Builtin.append_ #[t,u'] ty #[a.eval x,a.eval y]).run P w).andThen fun v w => .ok (.value v) w) (trAppend P ft x y t u') := by
  intro ao xs ht _ id hcl v u hh
  unfold trAppend at ht
  split at ht
  · rename_i e du l hu hu' hx
    split at ht
    · rename_i i z hk hi hz
      split at ht
      · rename_i hb
        cases ht
        obtain ⟨p,q,rfl⟩ := trArgs2 hx
        obtain ⟨i',zv,hi',hzv,hds⟩ := zeroT_some hz
        rw [hi] at hi'
        cases hi'
        obtain ⟨h1,h2,h3⟩ := trArgs_rd hft r hx
        exact does_append r.mem hu hu' hk hi hzv hds hb.2.1 hb.2.2 (h3 0 (by simp)) (h3 1 (by simp)) (by simp [idsOf]) hcl.free hh
      · cases ht
    · cases ht
  · cases ht

theorem t_builtin (b : Builtin) (args : Array Operand) (ts : Array TypeId) (ty : TypeId) (consts : Array Bool) : Turned P F B np w0 ext σ0 G s w ((builtin b ts ty consts (args.map a.eval)).run P w) (trBuiltin P ft b args.toList ts.toList) := by
  intro ao xs ht hnc id hcl v u hh
  unfold trBuiltin at ht
  split at ht
  · rename_i x t ha hts
    have ha : args = #[x] := by rw [← Array.toArray_toList (xs := args),ha]
    have hts : ts = #[t] := by rw [← Array.toArray_toList (xs := ts),hts]
    subst ha hts
    have := t_len hft r x t ty ao xs ht hnc id hcl v u hh
    rw [show #[a.eval x] = Array.map a.eval #[x] from by simp] at this
    simpa only [builtin,Sem.run_bind,Sem.run_pure] using this
  · rename_i x y t u' ha hts
    have ha : args = #[x,y] := by rw [← Array.toArray_toList (xs := args),ha]
    have hts : ts = #[t,u'] := by rw [← Array.toArray_toList (xs := ts),hts]
    subst ha hts
    have := t_append hft r x y t u' ty ao xs ht hnc id hcl v u hh
    rw [show #[a.eval x,a.eval y] = Array.map a.eval #[x,y] from by simp] at this
    simpa only [builtin,Sem.run_bind,Sem.run_pure] using this
  · rename_i _ x y ha
    have ha : args = #[x,y] := by rw [← Array.toArray_toList (xs := args),ha]
    subst ha
    rw [Option.map_eq_some_iff] at ht
    obtain ⟨l,hx,h⟩ := ht
    cases h
    obtain ⟨p,q,rfl,e1,e2⟩ := trXs2 hx
    have := does_mnmx r.mem (ev_rd hft r e1) (ev_rd hft r e2) id (idsOf (.mnmx true)) true (at_ := ts) (ty := ty) (P := P) hh
    rw [show #[a.eval x,a.eval y] = Array.map a.eval #[x,y] from by simp] at this
    simpa only [builtin,Sem.run_bind,Sem.run_pure,if_true,Bool.false_eq_true,if_false] using this
  · rename_i _ x y ha
    have ha : args = #[x,y] := by rw [← Array.toArray_toList (xs := args),ha]
    subst ha
    rw [Option.map_eq_some_iff] at ht
    obtain ⟨l,hx,h⟩ := ht
    cases h
    obtain ⟨p,q,rfl,e1,e2⟩ := trXs2 hx
    have := does_mnmx r.mem (ev_rd hft r e1) (ev_rd hft r e2) id (idsOf (.mnmx false)) false (at_ := ts) (ty := ty) (P := P) hh
    rw [show #[a.eval x,a.eval y] = Array.map a.eval #[x,y] from by simp] at this
    simpa only [builtin,Sem.run_bind,Sem.run_pure,if_true,Bool.false_eq_true,if_false] using this
  · cases ht

theorem t_call (c : Call) (ty : TypeId) : Turned P F B np w0 ext σ0 G s w ((do let d ← resolve a.eval c ty; invoke d.target d.args : Sem Next).run P w) (trCall P ft c) := by
  intro ao xs ht hnc id hcl v u hh
  obtain ⟨callee,args,ts⟩ := c
  unfold trCall at ht
  split at ht
  · split at ht
    · cases ht
      cases hnc
    · cases ht
  · rw [Option.map_eq_some_iff] at ht
    obtain ⟨l,_,h⟩ := ht
    cases h
    cases hnc
  · rename_i b hb
    simp only at hb
    subst hb
    simp only [resolve,invoke,Sem.run_bind,Sem.run_pure,Result.andThen_ok]
    exact t_builtin hft r b args ts ty _ ao xs ht hnc id hcl v u hh
  · cases ht

theorem t_mapSet (t : TypeId) (x y z : Operand) : Turned P F B np w0 ext σ0 G s w (((Instr.mapUpdate t (a.eval x) (a.eval y) (a.eval z)).run P w).andThen fun _ w => .ok .skip w) (trMapSet P ft t x y z) := by
  intro ao xs ht _ id hcl v u hh
  unfold trMapSet at ht
  split at ht
  · rename_i p ax ay az hm h1 h2 h3
    cases ht
    obtain ⟨k,e,hu,hk,he⟩ := mapZ_some (g := p.1) (z := p.2) hm
    exact does_mapSet r.mem (ev_rd hft r h1) (ev_rd hft r h2) (trZ_rd (ev_rd hft r h3) _) _ _ hu hk hh
  · cases ht

end ops

theorem op_does0 (hft : ∀ f j,ag ft f = some j → F j = f) (r : Rel F B np w0 ext σ0 G s a w) (o : Oper) : Turned P F B np w0 ext σ0 G s w ((execOp a.eval o).run P w) (trOp0 P ft np o) := by
  cases hop : o.op <;> simp only [trOp0,execOp,hop,Sem.run_bind,Sem.run_pure]
  case move x => exact t_move hft r _ x
  case assign x => exact t_move hft r _ x
  case alloc t => exact t_alloc hft r t
  case build t parts => exact t_build hft r t parts
  case buildSlice t len parts => exact t_buildSlice hft r t len parts
  case load t x => exact t_load hft r t x
  case store t x y => exact t_store hft r t x y
  case binOp op t x y ty => simpa only [Sem.run_bind] using t_bin hft r op t x y
  case convert src dst x => exact t_conv hft r src dst x
  case makeFunc fn first caps =>
    simp only [Instr.makeFunc,Sem.run_pure,Result.andThen_ok]
    exact t_makeFunc hft r fn first caps
  case makeSlice t l c => exact t_makeSlice hft r t l c
  case slice t x lo hi mx => exact t_slice hft r t x lo hi mx
  case fieldAddr st x f => exact t_fieldAddr hft r st x f
  case field st x f => exact t_field hft r st x f
  case indexAddr t x i => exact t_indexAddr hft r t x i
  case index t x i => exact t_index hft r t x i
  case call c => simpa only [Sem.run_bind] using t_call hft r c o.type
  case pick c x y =>
    intro ao xs ht _ id hcl v u hh
    rw [Option.map_eq_some_iff] at ht
    obtain ⟨l,h1,h⟩ := ht
    cases h
    obtain ⟨p,q,t,rfl,e1,e2,e3⟩ := trXs3 h1
    exact does_pick r.mem (ev_rd hft r e1) (ev_rd hft r e2) (ev_rd hft r e3) _ _ hh
  case box t x =>
    intro ao xs ht _ id hcl v u hh
    rw [Option.map_eq_some_iff] at ht
    obtain ⟨ax,h1,h⟩ := ht
    cases h
    exact does_box r.mem (ev_rd hft r h1) (by simp [idsOf]) hcl.free (ev_names hcl h1) t hh
  case nilCheck x =>
    intro ao xs ht _ id hcl v u hh
    rw [Option.map_eq_some_iff] at ht
    obtain ⟨ax,h1,h⟩ := ht
    cases h
    obtain ⟨b,o',hx,hd⟩ := does_nilCheck r.mem (ev_rd hft r h1) id _ hh
    rw [hx] at hd ⊢
    exact hd
  case unOp op t x =>
    intro ao xs ht _ id hcl v u hh
    rw [Option.map_eq_some_iff] at ht
    obtain ⟨ax,h1,h⟩ := ht
    cases h
    exact does_un r.mem (ev_rd hft r h1) _ _ op hh
  case extract x i =>
    intro ao xs ht _ id hcl v u hh
    rw [Option.map_eq_some_iff] at ht
    obtain ⟨ax,h1,h⟩ := ht
    cases h
    exact does_extract r.mem (ev_rd hft r h1) _ _ i hh
  case makeMap t x =>
    intro ao xs ht _ id hcl v u hh
    unfold trMakeMap at ht
    split at ht
    · cases ht
      exact does_mkMap r.mem (by simp [idsOf]) hcl.free t _ hh
    · cases ht
  case mapUpdate t x y z => exact t_mapSet hft r t x y z
  case insert t x y z => exact t_mapSet hft r t x y z
  case lookup t x y c =>
    intro ao xs ht _ id hcl v u hh
    unfold trLookup at ht
    split at ht
    · rename_i g z ax ay hm h1 h2
      cases ht
      obtain ⟨k,e,hu,hk,he⟩ := mapZ_some hm
      exact does_mapGet r.mem (ev_rd hft r h1) (ev_rd hft r h2) _ _ hu hk c he hh
    · cases ht
  case range t x =>
    intro ao xs ht _ id hcl v u hh
    unfold trRange at ht
    split at ht
    · rename_i ax hu h1
      cases ht
      exact does_iterStr r.mem (ev_rd hft r h1) (by simp [idsOf]) hcl.free hu hh
    · cases ht
  case next x isS =>
    intro ao xs ht _ id hcl v u hh
    cases isS with
    | false => cases ht
    | true =>
      simp only [cond_true,Option.map_eq_some_iff] at ht
      obtain ⟨ax,h1,h⟩ := ht
      cases h
      exact does_nextStr r.mem (ev_rd hft r h1) _ _ _ hh
  all_goals
    intro ao xs ht
    cases ht

theorem orStuck_cases {t : Option (AOp × List AX)} {ao : AOp} {xs : List AX} (h : orStuck t = some (ao,xs)) : t = some (ao,xs) ∨ (ao = .stuck ∧ xs = []) := by
  unfold orStuck at h
  split at h
  · exact .inl h
  · cases h
    exact .inr ⟨rfl,rfl⟩

theorem trOp_cases {o : Oper} {ao : AOp} {xs : List AX} (h : trOp P ft np o = some (ao,xs)) : (∃ c,o.op = .call c ∧ trCall P ft c = some (ao,xs)) ∨ (trOp0 P ft np o = some (ao,xs) ∧ isCall ao = false) ∨ (ao = .stuck ∧ xs = []) := by
  unfold trOp at h
  split at h
  · rename_i c hc
    rcases orStuck_cases h with h | h
    · exact .inl ⟨c,hc,h⟩
    · exact .inr (.inr h)
  · split at h
    · rename_i p hp
      cases hi : isCall p.1 with
      | true => rw [hi] at h; cases h
      | false =>
        rw [hi] at h
        cases h
        exact .inr (.inl ⟨hp,hi⟩)
    · cases h
      exact .inr (.inr ⟨rfl,rfl⟩)

theorem op_does (hft : ∀ f j,ag ft f = some j → F j = f) (r : Rel F B np w0 ext σ0 G s a w) (o : Oper) : Turned P F B np w0 ext σ0 G s w ((execOp a.eval o).run P w) (trOp P ft np o) := by
  intro ao xs ht hnc
  rcases trOp_cases ht with ⟨c,hc,h⟩ | ⟨h,_⟩ | ⟨rfl,rfl⟩
  · have h1 := t_call hft r c o.type ao xs h hnc
    simp only [Sem.run_bind] at h1
    simpa only [execOp,hc,Sem.run_bind] using h1
  · exact op_does0 hft r o ao xs h hnc
  · intro id hcl v u hh
    exact (holds_bad hh).elim

end
end Go.Abs

/- Numbers: an operation names none that is not given out yet. -/
namespace Go.Abs
open Go

section
variable {P : Program} {ft : FT} {np : Nat} {hp : Nat → Option (Bool × List D)} {tk : Nat → Option (Nat × Nat)} {lo hi id : Nat}

theorem names_iff {l : List D} : names lo hi l = false ↔ ∀ d ∈ l,d.names1 lo hi = false := by
  induction l with
  | nil => simp [names]
  | cons d l ih =>
    simp only [names,List.mem_cons,forall_eq_or_imp]
    cases d.names1 lo hi with
    | true => simp
    | false => simp [ih]

theorem in_range_of {lo hi j : Nat} (h : ¬ (lo ≤ j ∧ j < hi)) : (Nat.ble lo j && Nat.blt j hi) = false := by
  cases hh : (Nat.ble lo j && Nat.blt j hi) with
  | false => rfl
  | true =>
    simp only [Bool.and_eq_true,Nat.ble_eq,Nat.blt_eq] at hh
    exact absurd hh h

theorem mem_upd {l : List D} {i : Nat} {a d : D} (h : d ∈ upd l i a) : d = a ∨ d ∈ l := by
  induction l generalizing i with
  | nil => simp [upd] at h
  | cons e l ih =>
    cases i with
    | zero =>
      simp only [upd,List.mem_cons] at h
      rcases h with h | h
      · exact .inl h
      · exact .inr (List.mem_cons_of_mem _ h)
    | succ i =>
      simp only [upd,List.mem_cons] at h
      rcases h with h | h
      · exact .inr (by simp [h])
      · rcases ih h with h | h
        · exact .inl h
        · exact .inr (List.mem_cons_of_mem _ h)

theorem mem_splice {ds : List D} : ∀ {cs : List D} {o : Nat} {d : D},d ∈ splice cs o ds → d ∈ cs ∨ d ∈ ds := by
  induction ds with
  | nil => intro cs o d h; exact .inl h
  | cons a ds ih =>
    intro cs o d h
    simp only [splice] at h
    rcases ih h with h | h
    · rcases mem_upd h with h | h
      · exact .inr (by simp [h])
      · exact .inl h
    · exact .inr (List.mem_cons_of_mem _ h)

theorem pure1_names (d : D) : d.pure1.names1 lo hi = false := by cases d <;> rfl

theorem mem_pures {l : List D} {d : D} (h : d ∈ pures l) : ∃ e ∈ l,d = e.pure1 := by
  induction l with
  | nil => simp [pures] at h
  | cons a l ih =>
    simp only [pures,List.mem_cons] at h
    rcases h with h | h
    · exact ⟨a,by simp,h⟩
    · obtain ⟨e,h1,h2⟩ := ih h
      exact ⟨e,List.mem_cons_of_mem _ h1,h2⟩

theorem mem_ros {l : List D} {d : D} (h : d ∈ ros l) : ∃ e ∈ l,d = e.ro1 := by
  induction l with
  | nil => simp [ros] at h
  | cons a l ih =>
    simp only [ros,List.mem_cons] at h
    rcases h with h | h
    · exact ⟨a,by simp,h⟩
    · obtain ⟨e,h1,h2⟩ := ih h
      exact ⟨e,List.mem_cons_of_mem _ h1,h2⟩

theorem ro1_names {d : D} (h : d.names1 lo hi = false) : d.ro1.names1 lo hi = false := by
  cases d with
  | slice t z n g => cases t <;> rfl
  | _ => exact h

theorem pures_names (l : List D) : names lo hi (pures l) = false := names_iff.2 fun d hd => by
  obtain ⟨e,_,rfl⟩ := mem_pures hd
  exact pure1_names e

theorem ros_names {l : List D} (h : names lo hi l = false) : names lo hi (ros l) = false := names_iff.2 fun d hd => by
  obtain ⟨e,he,rfl⟩ := mem_ros hd
  exact ro1_names (names_iff.1 h e he)

theorem names1_of {d : D} (h : d.names lo hi = false) : d.names1 lo hi = false := by
  cases d with
  | agg l => rfl
  | tup l => rfl
  | _ => exact h

theorem mem_nth {l : List D} {j : Nat} : nth l j .dead ∈ l ∨ nth l j .dead = .dead := by
  by_cases hj : j < l.length
  · exact .inl (by rw [nth_lt l _ hj]; exact List.getElem_mem hj)
  · exact .inr (nth_ge l _ (Nat.le_of_not_lt hj))

theorem mem_fill : ∀ {qs : List (Nat × Nat)} {xs cells l : List D},fill cells qs xs = some l → ∀ d ∈ l,d ∈ cells ∨ ∃ x ∈ xs,d ∈ x.cells
  | [],[],cells,l,h,d,hd => by cases h; exact .inl hd
  | [],_ :: _,_,_,h,_,_ => by simp [fill] at h
  | _ :: _,[],_,_,h,_,_ => by simp [fill] at h
  | (off,size) :: qs,x :: xs,cells,l,h,d,hd => by
    simp only [fill] at h
    cases hb : (solid x.cells && Nat.beq x.cells.length size && Nat.ble (off + size) cells.length) with
    | false => rw [hb] at h; cases h
    | true =>
      rw [hb] at h
      rcases mem_fill h d hd with h1 | ⟨y,h1,h2⟩
      · rcases mem_splice h1 with h3 | h3
        · exact .inl h3
        · exact .inr ⟨x,by simp,h3⟩
      · exact .inr ⟨y,List.mem_cons_of_mem _ h1,h2⟩

def Cell : D → Prop
  | .agg _ => False
  | .tup _ => False
  | _ => True

theorem Cell.names {d : D} (h : Cell d) (h1 : d.names1 lo hi = false) : d.names lo hi = false := by
  cases d <;> first | exact h1 | exact h.elim

theorem cell_pure1 (d : D) : Cell d.pure1 := by cases d <;> trivial

def FlatD (lo hi : Nat) : D → Prop
  | .agg l => ∀ e ∈ l,Cell e
  | .tup l => ∀ e ∈ l,match e with
    | .agg c => names lo hi c = false
    | .tup _ => False
    | _ => True
  | _ => True

theorem solid_cell {l : List D} (h : solid l = true) : ∀ e ∈ l,Cell e := by
  induction l with
  | nil => simp
  | cons d l ih =>
    intro e he
    simp only [List.mem_cons] at he
    rcases he with rfl | he
    · cases e <;> first | trivial | simp [solid] at h
    · refine ih ?_ e he
      cases d <;> first | exact h | simp [solid] at h

theorem loadFrom_clean {g : Bool} {n : Nat} {l : List D} {v : D} {u : Upd} (h : (loadFrom g n l).holds v u) (h1 : names lo hi l = false) (h2 : ∀ e ∈ l,Cell e) : v.names lo hi = false ∧ u = Upd.none := by
  unfold loadFrom at h
  cases hb : Nat.ble n l.length with
  | false => rw [hb] at h; exact (holds_bad h).elim
  | true =>
    rw [hb] at h
    obtain ⟨rfl,rfl⟩ := holds_val h
    refine ⟨?_,rfl⟩
    have h3 : names lo hi (l.take n) = false := names_iff.2 fun d hd => names_iff.1 h1 d (List.mem_of_mem_take hd)
    cases g with
    | true => exact h3
    | false =>
      simp only [mkv,cond_false]
      rcases mem_nth (l := l.take n) (j := 0) with h4 | h4
      · exact (h2 _ (List.mem_of_mem_take h4)).names (names_iff.1 h3 _ h4)
      · rw [h4]; rfl

theorem drop_names {l : List D} (h : names lo hi l = false) (n : Nat) : names lo hi (l.drop n) = false := names_iff.2 fun d hd => names_iff.1 h d (List.mem_of_mem_drop hd)

theorem retag_names : ∀ (l : List D) (i : Nat),(∀ d ∈ l,(∃ t z n g,d = .slice t z n g) ∨ d.names1 lo hi = false) → (∀ d ∈ l,∀ j z n g,d = .slice (.own j) z n g → True) → (i + l.length ≤ lo ∨ hi ≤ i) → names lo hi (retag l i) = false ∧ ∀ x ∈ newToks l i,¬ (lo ≤ x.1 ∧ x.1 < hi)
  | [],i,_,_,_ => ⟨rfl,fun x hx => by simp [newToks] at hx⟩
  | d :: l,i,h,h',hl => by
    simp only [List.length_cons] at hl
    obtain ⟨e1,e2⟩ := retag_names l (i + 1) (fun d hd => h d (List.mem_cons_of_mem _ hd)) (fun _ _ _ _ _ _ _ => trivial) (by omega)
    have h0 := h d (by simp)
    have other : d.names1 lo hi = false → names lo hi (d :: retag l (i + 1)) = false := fun hd => names_iff.2 fun x hx => by
      simp only [List.mem_cons] at hx
      rcases hx with rfl | hx
      · exact hd
      · exact names_iff.1 e1 x hx
    cases d with
    | slice t z n g =>
      cases t with
      | own j =>
        refine ⟨names_iff.2 fun x hx => ?_,fun x hx => ?_⟩
        · simp only [retag,List.mem_cons] at hx
          rcases hx with rfl | hx
          · exact in_range_of (by omega)
          · exact names_iff.1 e1 x hx
        · simp only [newToks,List.mem_cons] at hx
          rcases hx with rfl | hx
          · simp only; omega
          · exact e2 x hx
      | ro => exact ⟨other rfl,e2⟩
      | full => exact ⟨other rfl,e2⟩
    | ptr j o => exact ⟨other (by rcases h0 with ⟨_,_,_,_,h0⟩ | h0; cases h0; exact h0),e2⟩
    | int k n => exact ⟨other rfl,e2⟩
    | bool k => exact ⟨other rfl,e2⟩
    | str k => exact ⟨other rfl,e2⟩
    | agg k => exact ⟨other rfl,e2⟩
    | tup k => exact ⟨other rfl,e2⟩
    | eptr k => exact ⟨other rfl,e2⟩
    | nilp => exact ⟨other rfl,e2⟩
    | ubool => exact ⟨other rfl,e2⟩
    | fn k n => exact ⟨other rfl,e2⟩
    | dead => exact ⟨other rfl,e2⟩
    | mp va n ks vs => exact ⟨other rfl,e2⟩
    | newp l => exact ⟨other rfl,e2⟩
    | arr z n g => exact ⟨other rfl,e2⟩
    | mref j => exact ⟨other (by rcases h0 with ⟨_,_,_,_,h0⟩ | h0; cases h0; exact h0),e2⟩
    | msl j z n => exact ⟨other (by rcases h0 with ⟨_,_,_,_,h0⟩ | h0; cases h0; exact h0),e2⟩
    | rptr j z n i o => exact ⟨other (by rcases h0 with ⟨_,_,_,_,h0⟩ | h0; cases h0; exact h0),e2⟩

theorem flat1_names {d : D} (h : flat1 d = true) : d.names1 lo hi = false := by
  cases d with
  | slice t z n g => cases t <;> first | rfl | cases h
  | _ => first | rfl | cases h

theorem freeze_clean : ∀ (l : List D) (ds : List D) (u : List (Nat × Bool × List D)),freeze np hp l = some (ds,u) → (∀ i f cs,hp i = some (f,cs) → ¬ (lo ≤ i ∧ i < hi)) → ∀ x ∈ u,¬ (lo ≤ x.1 ∧ x.1 < hi) ∧ names lo hi x.2.2 = false
  | [],ds,u,h,_,x,hx => by simp only [freeze,Option.some.injEq,Prod.mk.injEq] at h; rw [← h.2] at hx; simp at hx
  | d :: l,ds,u,h,hh,x,hx => by
    have other : (match freeze np hp l with | some (ds,u) => bif solid [d] then some (d.pure :: ds,u) else none | none => none) = some (ds,u) → ¬ (lo ≤ x.1 ∧ x.1 < hi) ∧ names lo hi x.2.2 = false := by
      intro h
      cases hf : freeze np hp l with
      | none => simp [hf] at h
      | some p =>
        obtain ⟨ds',u'⟩ := p
        simp only [hf] at h
        cases hs : solid [d] with
        | false => rw [hs] at h; cases h
        | true =>
          rw [hs] at h
          cases h
          exact freeze_clean l _ _ hf hh x hx
    cases d with
    | ptr i off =>
      simp only [freeze] at h
      cases hi' : hp i with
      | none => simp [hi'] at h
      | some e =>
        obtain ⟨f,cs⟩ := e
        cases hf : freeze np hp l with
        | none => simp [hi',hf] at h
        | some p =>
          obtain ⟨ds',u'⟩ := p
          simp only [hi',hf] at h
          cases hb : ((f || solid cs) && Nat.ble np i) with
          | false => rw [hb] at h; cases h
          | true =>
            rw [hb] at h
            cases h
            simp only [List.mem_cons] at hx
            rcases hx with rfl | hx
            · exact ⟨hh i _ _ hi',pures_names _⟩
            · exact freeze_clean l _ _ hf hh x hx
    | fn f c => simp [freeze] at h
    | _ => exact other h

theorem append_clean {sz bytes : Nat} {t : Tag} {z n : Nat} {g : Nat → List D} {m : Nat} {k : Nat → List D} {v : D} {u : Upd} (h : (appendOut id sz bytes tk t z n g m k).holds v u) (hid : ¬ (lo ≤ id ∧ id < hi)) (ht : ∀ i e,tk i = some e → ¬ (lo ≤ i ∧ i < hi)) :
    v.names lo hi = false ∧ (∀ x ∈ u.h,¬ (lo ≤ x.1 ∧ x.1 < hi) ∧ names lo hi x.2.2 = false) ∧ ∀ x ∈ u.t,¬ (lo ≤ x.1 ∧ x.1 < hi) := by
  unfold appendOut at h
  cases hb : Nat.beq z sz with
  | false => rw [hb] at h; exact (holds_bad h).elim
  | true =>
    rw [hb] at h
    simp only [Bool.not_true,cond_false] at h
    split at h
    · rename_i i
      split at h
      · rename_i z' n' hi'
        have h1 := ht i _ hi'
        cases hb2 : Nat.beq z' sz with
        | false => rw [hb2] at h; exact (holds_bad h).elim
        | true =>
          rw [hb2] at h
          obtain ⟨_,rfl,rfl⟩ := holds_ask h
          refine ⟨in_range_of h1,fun y hy => by simp at hy,fun y hy => ?_⟩
          simp only [List.mem_singleton] at hy
          subst hy
          exact h1
      · exact (holds_bad h).elim
    · obtain ⟨_,rfl,rfl⟩ := holds_ask h
      refine ⟨in_range_of (by omega),fun y hy => by simp at hy,fun y hy => ?_⟩
      simp only [List.mem_singleton] at hy
      subst hy
      simp only
      omega
    · exact (holds_bad h).elim

theorem bin_clean {op : BinOp} {x y v : D} {u : Upd} (h : (bin op x y).holds v u) : v.names lo hi = false ∧ u = Upd.none := by
  unfold bin at h
  split at h
  · rename_i k a k' b
    cases hs : isShift op with
    | true =>
      rw [hs] at h
      simp only [cond_true] at h
      unfold shiftInt at h
      split at h
      · obtain ⟨_,rfl,rfl⟩ := holds_chk h; exact ⟨rfl,rfl⟩
      · obtain ⟨_,rfl,rfl⟩ := holds_chk h; exact ⟨rfl,rfl⟩
      · exact (holds_bad h).elim
    | false =>
      rw [hs] at h
      simp only [cond_false] at h
      cases hk : kindEq k k' with
      | false => rw [hk] at h; exact (holds_bad h).elim
      | true =>
        rw [hk] at h
        simp only [cond_true] at h
        unfold binInt at h
        split at h
        all_goals first
          | exact (holds_bad h).elim
          | (obtain ⟨rfl,rfl⟩ := holds_val h; exact ⟨rfl,rfl⟩)
          | (obtain ⟨_,rfl,rfl⟩ := holds_chk h; exact ⟨rfl,rfl⟩)
  · unfold binStr at h
    split at h
    all_goals first
      | exact (holds_bad h).elim
      | (obtain ⟨rfl,rfl⟩ := holds_val h; exact ⟨rfl,rfl⟩)
      | (obtain ⟨_,rfl,rfl⟩ := holds_chk h; exact ⟨rfl,rfl⟩)
  · exact (holds_bad h).elim

theorem holds_bif {c : Bool} {o : Out} {v : D} {u : Upd} (h : (bif c then o else Out.bad).holds v u) : c = true ∧ o.holds v u := by
  cases c with
  | true => exact ⟨rfl,h⟩
  | false => exact (holds_bad h).elim

theorem holds_bnif {c : Bool} {o : Out} {v : D} {u : Upd} (h : (bif !c then Out.bad else o).holds v u) : c = true ∧ o.holds v u := by
  cases c with
  | true => exact ⟨rfl,h⟩
  | false => exact (holds_bad h).elim

theorem out_clean {o : AOp} {args : List D} {v : D} {u : Upd} (h : (outOf o id hp tk args).holds v u) (ho : opOk o = true) (ha : ∀ d ∈ args,d.names lo hi = false ∧ FlatD lo hi d)
    (hh : ∀ i f cs,hp i = some (f,cs) → ¬ (lo ≤ i ∧ i < hi) ∧ names lo hi cs = false ∧ ∀ e ∈ cs,Cell e) (ht : ∀ i e,tk i = some e → ¬ (lo ≤ i ∧ i < hi)) (hid : id + idsOf o ≤ lo ∨ hi ≤ id) :
    v.names lo hi = false ∧ (∀ x ∈ u.h,¬ (lo ≤ x.1 ∧ x.1 < hi) ∧ names lo hi x.2.2 = false) ∧ ∀ x ∈ u.t,¬ (lo ≤ x.1 ∧ x.1 < hi) := by
  have none' : (∀ x ∈ Upd.none.h,¬ (lo ≤ x.1 ∧ x.1 < hi) ∧ names lo hi x.2.2 = false) ∧ ∀ x ∈ Upd.none.t,¬ (lo ≤ x.1 ∧ x.1 < hi) := ⟨fun x hx => by simp [Upd.none] at hx,fun x hx => by simp [Upd.none] at hx⟩
  have hidlt : ¬ (lo ≤ id ∧ id < hi) := by
    have : 0 < idsOf o := by cases o <;> simp [idsOf]; omega
    omega
  unfold outOf at h
  split at h
  · obtain ⟨rfl,rfl⟩ := holds_val h; exact ⟨(ha _ (by simp)).1,none'⟩
  · rename_i c x y
    obtain ⟨rfl,rfl⟩ := holds_val h
    refine ⟨?_,none'⟩
    cases c
    · exact (ha y (by simp)).1
    · exact (ha x (by simp)).1
  · rename_i cells
    cases hs : solid cells with
    | false => rw [hs] at h; exact (holds_bad h).elim
    | true =>
      rw [hs] at h
      obtain ⟨rfl,rfl⟩ := holds_ok h
      simp only [opOk,List.all_eq_true] at ho
      have hr := retag_names (lo := lo) (hi := hi) cells (id + 1) (fun d hd => by
        have := ho d hd
        cases d with
        | slice t z n g => exact .inl ⟨t,z,n,g,rfl⟩
        | _ => exact .inr (flat1_names this)) (fun _ _ _ _ _ _ _ => trivial) (by simp only [idsOf] at hid; omega)
      refine ⟨in_range_of (by omega),fun x hx => ?_,hr.2⟩
      simp only [List.mem_singleton] at hx
      subst hx
      exact ⟨by simp only; omega,hr.1⟩
  · rename_i x
    cases hs : solid x.cells with
    | false => rw [hs] at h; exact (holds_bad h).elim
    | true =>
      rw [hs] at h
      obtain ⟨rfl,rfl⟩ := holds_ok h
      refine ⟨in_range_of (by omega),fun y hy => ?_,fun y hy => by simp at hy⟩
      simp only [List.mem_singleton] at hy
      subst hy
      exact ⟨by simp only; omega,names_cells (ha x (by simp)).1 hs⟩
  · rename_i g n i off
    split at h
    · rename_i f cs hi'
      obtain ⟨_,h2,h3⟩ := hh i _ _ hi'
      obtain ⟨h4,rfl⟩ := loadFrom_clean (holds_bif h).2 (drop_names h2 off) (fun e he => h3 e (List.mem_of_mem_drop he))
      exact ⟨h4,none'⟩
    · exact (holds_bad h).elim
  · rename_i g n l
    obtain ⟨h4,rfl⟩ := loadFrom_clean (lo := lo) (hi := hi) h (pures_names l) (fun e he => by
      obtain ⟨x,_,rfl⟩ := mem_pures he
      exact cell_pure1 x)
    exact ⟨h4,none'⟩
  · rename_i n i off x
    split at h
    · rename_i cs hi'
      obtain ⟨h1,h2,h3⟩ := hh i _ _ hi'
      replace h := (holds_bnif h).2
      cases hb : (solid x.cells && Nat.beq x.cells.length n && Nat.ble (off + n) cs.length) with
      | false => rw [hb] at h; exact (holds_bad h).elim
      | true =>
        rw [hb] at h
        obtain ⟨rfl,rfl⟩ := holds_ok h
        simp only [Bool.and_eq_true] at hb
        refine ⟨rfl,fun y hy => ?_,fun y hy => by simp at hy⟩
        simp only [List.mem_singleton] at hy
        subst hy
        refine ⟨h1,names_iff.2 fun d hd => ?_⟩
        rcases mem_splice hd with hd | hd
        · exact names_iff.1 h2 d hd
        · exact names_iff.1 (names_cells (ha x (by simp)).1 hb.1.1) d hd
    · exact (holds_bad h).elim
  · rename_i off i o
    obtain ⟨rfl,rfl⟩ := holds_val h
    exact ⟨(ha (.ptr i o) (by simp)).1,none'⟩
  · obtain ⟨rfl,rfl⟩ := holds_val h
    exact ⟨rfl,none'⟩
  · rename_i g off n l
    have h1 := ha (.agg l) (by simp)
    obtain ⟨h4,rfl⟩ := loadFrom_clean h (drop_names h1.1 off) (fun e he => h1.2 e (List.mem_of_mem_drop he))
    exact ⟨h4,none'⟩
  · rename_i sz t z n g k i
    cases hb : Nat.beq z sz with
    | false => rw [hb] at h; exact (holds_bad h).elim
    | true =>
      rw [hb] at h
      obtain ⟨_,rfl,rfl⟩ := holds_chk h
      exact ⟨rfl,none'⟩
  · rename_i sz len j off k i
    obtain ⟨_,rfl,rfl⟩ := holds_chk h
    exact ⟨(ha (.ptr j off) (by simp)).1,none'⟩
  · obtain ⟨_,rfl,rfl⟩ := holds_chk h
    exact ⟨rfl,none'⟩
  · obtain ⟨_,rfl,rfl⟩ := holds_chk h
    exact ⟨rfl,none'⟩
  · rename_i g sz len l k i
    have h1 := ha (.agg l) (by simp)
    cases hl : loadFrom g sz (l.drop (i.toNat * sz)) with
    | ok v' u' =>
      rw [hl] at h
      obtain ⟨_,rfl,rfl⟩ := holds_chk h
      have hl' : (loadFrom g sz (l.drop (i.toNat * sz))).holds v u := .inl hl
      obtain ⟨h4,rfl⟩ := loadFrom_clean hl' (drop_names h1.1 _) (fun e he => h1.2 e (List.mem_of_mem_drop he))
      exact ⟨h4,none'⟩
    | bad => rw [hl] at h; exact (holds_bad h).elim
    | ask p v' u' => rw [hl] at h; exact (holds_bad h).elim
    | chk p v' u' => rw [hl] at h; exact (holds_bad h).elim
    | alt p v' u' v2 u2 => rw [hl] at h; exact (holds_bad h).elim
  · rename_i zero parts
    cases hf : fill zero parts args with
    | none => rw [hf] at h; exact (holds_bad h).elim
    | some l =>
      rw [hf] at h
      obtain ⟨rfl,rfl⟩ := holds_val h
      simp only [opOk,List.all_eq_true] at ho
      refine ⟨ros_names (names_iff.2 fun d hd => ?_),none'⟩
      rcases mem_fill hf d hd with h1 | ⟨x,h1,h2⟩
      · exact flat1_names (ho d h1)
      · cases x with
        | agg l' => exact names_iff.1 (ha _ h1).1 d h2
        | _ =>
          simp only [D.cells,List.mem_singleton] at h2
          subst h2
          exact names1_of (ha _ h1).1
  · rename_i sz len zero parts
    cases hf : fill (rep len zero) parts args with
    | none => rw [hf] at h; exact (holds_bad h).elim
    | some l =>
      rw [hf] at h
      simp only at h
      cases hb : (Nat.beq zero.length sz && solid l) with
      | false => rw [hb] at h; exact (holds_bad h).elim
      | true =>
        rw [hb] at h
        obtain ⟨rfl,rfl⟩ := holds_val h
        exact ⟨rfl,none'⟩
  · rename_i sz lo' hi' mx t z n g r
    cases hb : Nat.beq z sz with
    | false => rw [hb] at h; exact (holds_bad h).elim
    | true =>
      rw [hb] at h
      simp only [Bool.not_true,cond_false] at h
      split at h
      · split at h
        · split at h
          · obtain ⟨_,rfl,rfl⟩ := holds_chk h
            refine ⟨?_,none'⟩
            cases mx <;> rfl
          · exact (holds_bad h).elim
        · exact (holds_bad h).elim
      · exact (holds_bad h).elim
  · split at h
    · split at h
      · obtain ⟨_,rfl,rfl⟩ := holds_chk h
        exact ⟨rfl,none'⟩
      · exact (holds_bad h).elim
    · exact (holds_bad h).elim
  · rename_i sz len np' i off
    split at h
    · rename_i f cs hi'
      obtain ⟨h1,h2,h3⟩ := hh i _ _ hi'
      replace h := (holds_bnif h).2
      cases hb : (Nat.ble (off + len * sz) cs.length && Nat.ble np' i) with
      | false => rw [hb] at h; exact (holds_bad h).elim
      | true =>
        rw [hb] at h
        obtain ⟨rfl,rfl⟩ := holds_ok h
        refine ⟨rfl,fun y hy => ?_,fun y hy => by simp at hy⟩
        simp only [List.mem_singleton] at hy
        subst hy
        exact ⟨h1,pures_names _⟩
    · exact (holds_bad h).elim
  · rename_i sz len np' l
    cases hb : Nat.ble (len * sz) l.length with
    | false => rw [hb] at h; exact (holds_bad h).elim
    | true =>
      rw [hb] at h
      obtain ⟨rfl,rfl⟩ := holds_val h
      exact ⟨rfl,none'⟩
  · obtain ⟨rfl,rfl⟩ := holds_val h
    exact ⟨rfl,none'⟩
  · obtain ⟨rfl,rfl⟩ := holds_val h
    exact ⟨rfl,none'⟩
  · rename_i sz bytes t z n g t' z' m g'
    cases hb : Nat.beq z' sz with
    | false => rw [hb] at h; exact (holds_bad h).elim
    | true =>
      rw [hb] at h
      exact append_clean h hidlt ht
  · rename_i sz bytes t z n g b
    cases hb : Nat.beq sz 1 with
    | false => rw [hb] at h; exact (holds_bad h).elim
    | true =>
      rw [hb] at h
      exact append_clean h hidlt ht
  · obtain ⟨h1,rfl⟩ := bin_clean (lo := lo) (hi := hi) h
    exact ⟨h1,none'⟩
  · obtain ⟨rfl,rfl⟩ := holds_val h
    exact ⟨rfl,none'⟩
  · split at h
    · obtain ⟨rfl,rfl⟩ := holds_val h
      exact ⟨rfl,none'⟩
    · exact (holds_bad h).elim
  · unfold un at h
    split at h
    · obtain ⟨rfl,rfl⟩ := holds_val h
      exact ⟨rfl,none'⟩
    · obtain ⟨rfl,rfl⟩ := holds_val h
      exact ⟨rfl,none'⟩
    · exact (holds_bad h).elim
  · obtain ⟨rfl,rfl⟩ := holds_val h
    exact ⟨rfl,none'⟩
  · obtain ⟨rfl,rfl⟩ := holds_val h
    exact ⟨rfl,none'⟩
  · obtain ⟨_,rfl,rfl⟩ := holds_ask h
    exact ⟨rfl,none'⟩
  · obtain ⟨rfl,rfl⟩ := holds_val h
    exact ⟨rfl,none'⟩
  · obtain ⟨rfl,rfl⟩ := holds_val h
    exact ⟨rfl,none'⟩
  · rename_i f np'
    cases hf : freeze np' hp args with
    | none => rw [hf] at h; exact (holds_bad h).elim
    | some p =>
      obtain ⟨ds,us⟩ := p
      rw [hf] at h
      obtain ⟨rfl,rfl⟩ := holds_ok h
      exact ⟨rfl,freeze_clean args ds us hf (fun i f cs h => (hh i f cs h).1),fun y hy => by simp at hy⟩
  · rename_i i l
    have h1 := ha (.tup l) (by simp)
    cases hb : Nat.blt i l.length with
    | false => rw [hb] at h; exact (holds_bad h).elim
    | true =>
      rw [hb] at h
      obtain ⟨rfl,rfl⟩ := holds_val h
      refine ⟨?_,none'⟩
      rcases mem_nth (l := l) (j := i) with h2 | h2
      · have h3 := names_iff.1 h1.1 _ h2
        have h4 := h1.2 _ h2
        generalize nth l i .dead = e at h3 h4
        cases e with
        | agg c => exact h4
        | tup c => exact h4.elim
        | _ => exact h3
      · rw [h2]; rfl
  · rename_i zero bytes k l k' c
    cases hs : solid zero with
    | false => rw [hs] at h; exact (holds_bad h).elim
    | true =>
      rw [hs] at h
      obtain ⟨_,rfl,rfl⟩ := holds_ask h
      refine ⟨in_range_of (by omega),fun y hy => by simp at hy,fun y hy => ?_⟩
      simp only [List.mem_singleton] at hy
      subst hy
      simp only
      omega
  · obtain ⟨rfl,rfl⟩ := holds_val h
    exact ⟨(ha _ (by simp)).1,none'⟩
  · obtain ⟨rfl,rfl⟩ := holds_val h
    exact ⟨rfl,none'⟩
  · obtain ⟨rfl,rfl⟩ := holds_val h
    exact ⟨rfl,none'⟩
  · obtain ⟨rfl,rfl⟩ := holds_ok h
    refine ⟨in_range_of (by omega),fun y hy => by simp at hy,fun y hy => ?_⟩
    simp only [List.mem_singleton] at hy
    subst hy
    simp only
    omega
  · obtain ⟨rfl,rfl⟩ := holds_ok h
    refine ⟨in_range_of (by omega),fun y hy => ?_,fun y hy => by simp at hy⟩
    simp only [List.mem_singleton] at hy
    subst hy
    exact ⟨by simp only; omega,rfl⟩
  · rename_i i
    unfold nextOut at h
    split at h
    · rename_i s p hi'
      obtain ⟨h1,_,_⟩ := hh i _ _ hi'
      rcases holds_alt h with ⟨_,rfl,rfl⟩ | ⟨_,rfl,rfl⟩
      · refine ⟨rfl,fun y hy => ?_,fun y hy => by simp at hy⟩
        simp only [List.mem_singleton] at hy
        subst hy
        exact ⟨h1,rfl⟩
      · exact ⟨rfl,none'⟩
    · exact (holds_bad h).elim
  · rename_i va
    obtain ⟨rfl,rfl⟩ := holds_ok h
    refine ⟨in_range_of (by omega),fun y hy => ?_,fun y hy => by simp at hy⟩
    simp only [List.mem_singleton] at hy
    subst hy
    exact ⟨by simp only; omega,rfl⟩
  · unfold lenOut at h
    split at h
    · obtain ⟨rfl,rfl⟩ := holds_val h
      exact ⟨rfl,none'⟩
    · exact (holds_bad h).elim
  · rename_i i k x
    unfold setOut at h
    split at h
    · rename_i va n ks vs hi'
      obtain ⟨h1,_,_⟩ := hh i _ _ hi'
      obtain ⟨_,h⟩ := holds_bif h
      obtain ⟨rfl,rfl⟩ := holds_ok h
      refine ⟨rfl,fun y hy => ?_,fun y hy => by simp at hy⟩
      simp only [List.mem_singleton] at hy
      subst hy
      exact ⟨h1,rfl⟩
    · exact (holds_bad h).elim
  · rename_i comma va zero i k
    unfold getOut at h
    split at h
    · rename_i va' n ks vs hi'
      obtain ⟨hva,h⟩ := holds_bif h
      have hva : va' = va := by cases va' <;> cases va <;> first | rfl | cases hva
      subst hva
      have hz : ∀ ok l,(getVal comma va' ok l).names lo hi = false := fun ok l => by
        have e : (mkv va' (pures l)).names lo hi = false ∧ (mkv va' (pures l)).names1 lo hi = false := by
          cases va' with
          | true => exact ⟨pures_names l,rfl⟩
          | false =>
            simp only [mkv,cond_false]
            rw [nth_pures]
            exact ⟨(cell_pure1 _).names (pure1_names _),pure1_names _⟩
        cases comma with
        | false => exact e.1
        | true =>
          simp only [getVal,cond_true,D.names]
          refine names_iff.2 fun d hd => ?_
          simp only [List.mem_cons,List.not_mem_nil,or_false] at hd
          rcases hd with rfl | rfl
          · exact e.2
          · rfl
      rcases holds_alt h with ⟨_,rfl,rfl⟩ | ⟨_,rfl,rfl⟩
      · exact ⟨hz _ _,none'⟩
      · exact ⟨hz _ _,none'⟩
    · exact (holds_bad h).elim
  · obtain ⟨rfl,rfl⟩ := holds_val h
    exact ⟨rfl,none'⟩
  · obtain ⟨rfl,rfl⟩ := holds_val h
    exact ⟨rfl,none'⟩
  · obtain ⟨rfl,rfl⟩ := holds_val h
    exact ⟨rfl,none'⟩
  · rcases holds_alt h with ⟨_,rfl,rfl⟩ | ⟨_,rfl,rfl⟩
    · exact ⟨rfl,none'⟩
    · exact ⟨rfl,none'⟩
  · exact (holds_bad h).elim

end
end Go.Abs

/- One operation that is no call,as a step from state to state. -/
namespace Go.Abs
open Go

section
variable {P : Program} {F : Nat → FuncId} {B np : Nat} {w0 w w' : World} {ext : List Nat} {σ0 : Sg} {G G' : Gh} {s : St} {a : Act} {ft : FT} {hp : Nat → Option (Bool × List D)} {tk : Nat → Option (Nat × Nat)} {lo hi : Nat}

theorem updH_mem : ∀ {l : List (Nat × Bool × List D)} {hp : Nat → Option (Bool × List D)} {j : Nat} {x : Bool × List D},updH hp l j = some x → hp j = some x ∨ (j,x) ∈ l
  | [],_,_,_,h => .inl h
  | (i,e) :: l,hp,j,x,h => by
    simp only [updH] at h
    rcases updH_mem h with h1 | h1
    · rcases get_upd h1 with ⟨rfl,rfl⟩ | ⟨_,h2⟩
      · exact .inr (by simp)
      · exact .inl h2
    · exact .inr (List.mem_cons_of_mem _ h1)

theorem updT_mem : ∀ {l : List (Nat × Nat × Nat)} {tk : Nat → Option (Nat × Nat)} {j : Nat} {x : Nat × Nat},updT tk l j = some x → tk j = some x ∨ (j,x) ∈ l
  | [],_,_,_,h => .inl h
  | (i,e) :: l,tk,j,x,h => by
    simp only [updT] at h
    rcases updT_mem h with h1 | h1
    · rcases get_upd h1 with ⟨rfl,rfl⟩ | ⟨_,h2⟩
      · exact .inr (by simp)
      · exact .inl h2
    · exact .inr (List.mem_cons_of_mem _ h1)

theorem setDst_len (dst : Option Nat) (v : D) (fr : List D) : (setDst dst v fr).length = fr.length := by
  cases dst <;> simp [setDst,length_upd]

theorem setDst_nth (dst : Option Nat) (v : D) (fr : List D) (j : Nat) : nth (setDst dst v fr) j .dead = v ∨ nth (setDst dst v fr) j .dead = nth fr j .dead := by
  cases dst with
  | none => exact .inr rfl
  | some d =>
    simp only [setDst,nth_upd]
    split
    · exact .inl rfl
    · exact .inr rfl

theorem Clean.after (h : Clean lo hi s) {v : D} {u : Upd} (hv : v.names lo hi = false) (hh : ∀ x ∈ u.h,¬ (lo ≤ x.1 ∧ x.1 < hi) ∧ names lo hi x.2.2 = false) (ht : ∀ x ∈ u.t,¬ (lo ≤ x.1 ∧ x.1 < hi)) (dst : Option Nat) :
    Clean lo hi ⟨setDst dst v s.fr,updH s.hp u.h,updT s.tk u.t⟩ := by
  refine ⟨fun i hi' => ?_,fun i f cs hx => ?_,fun i e hx => ?_⟩
  · simp only [setDst_len] at hi'
    simp only
    rcases setDst_nth dst v s.fr i with e | e
    · rw [e]; exact hv
    · rw [e]; exact h.fr i hi'
  · rcases updH_mem hx with h1 | h1
    · exact h.hp i f cs h1
    · exact hh _ h1
  · rcases updT_mem hx with h1 | h1
    · exact h.tk i e h1
    · exact ht _ h1

theorem Rp.cell {σ : Sg} {v : Value} {d : D} (h : Rp σ v d) : Cell d := by cases h <;> trivial

theorem Rc.cell {v : Value} {d : D} (h : Rc F G tk v d) : Cell d := by
  cases h with
  | pure h _ => exact h.cell
  | _ => trivial

theorem Rd.flat {v : Value} {d : D} (h : Rd F G tk v d) : FlatD lo hi d := by
  cases h with
  | any h =>
    cases h with
    | cell h =>
      have := h.cell
      cases d <;> first | trivial | exact this.elim
    | agg cs l h1 h2 =>
      intro e he
      obtain ⟨j,hj,rfl⟩ := List.mem_iff_getElem.1 he
      have := (h2 j hj).cell
      rw [nth_lt l _ hj] at this
      exact this
  | tup vs l h1 h2 =>
    intro e he
    obtain ⟨j,hj,rfl⟩ := List.mem_iff_getElem.1 he
    have := h2 j hj
    rw [nth_lt l _ hj] at this
    generalize l[j] = e at this
    generalize vs.getD j undef = v at this
    cases this with
    | cell h =>
      have := h.cell
      cases e <;> first | trivial | exact this.elim
    | agg cs c h3 h4 =>
      refine names_iff.2 fun x hx => ?_
      obtain ⟨q,hq,rfl⟩ := List.mem_iff_getElem.1 hx
      have := (h4 q hq).2
      rw [nth_lt c _ hq] at this
      rw [this]
      exact pure1_names _
  | mref id => trivial

theorem constOk_ok {d : D} (h : constOk d = true) : d.names lo hi = false ∧ FlatD lo hi d := by
  cases d with
  | agg l =>
    simp only [constOk,List.all_eq_true] at h
    refine ⟨names_iff.2 fun e he => flat1_names (h e he),fun e he => ?_⟩
    have := h e he
    cases e <;> first | trivial | cases this
  | tup l => cases h
  | slice t z n g => cases t <;> first | exact ⟨rfl,trivial⟩ | cases h
  | ptr j o => cases h
  | mref j => cases h
  | msl j z n => cases h
  | rptr j z n i o => cases h
  | _ => exact ⟨rfl,trivial⟩

theorem mem_evs {fr : List D} : ∀ {xs : List AX} {d : D},d ∈ evs fr xs → ∃ x ∈ xs,d = x.ev fr
  | [],_,h => by simp [evs] at h
  | x :: xs,d,h => by
    simp only [evs,List.mem_cons] at h
    rcases h with h | h
    · exact ⟨x,by simp,h⟩
    · obtain ⟨y,h1,h2⟩ := mem_evs h
      exact ⟨y,List.mem_cons_of_mem _ h1,h2⟩

theorem evs_ok (r : Rel F B np w0 ext σ0 G s a w) (hcl : Clean lo hi s) {xs : List AX} (h : xs.all axOk = true) : ∀ d ∈ evs s.fr xs,d.names lo hi = false ∧ FlatD lo hi d := by
  intro d hd
  obtain ⟨x,hx,rfl⟩ := mem_evs hd
  have hx := List.all_eq_true.1 h x hx
  cases x with
  | t i =>
    simp only [AX.ev]
    by_cases hi' : i < s.fr.length
    · exact ⟨hcl.fr i hi',(r.slots i hi').flat⟩
    · rw [nth_ge s.fr D.dead (Nat.le_of_not_lt hi')]
      exact ⟨rfl,trivial⟩
  | c d => exact constOk_ok hx

theorem hp_ok (r : Rel F B np w0 ext σ0 G s a w) (hcl : Clean lo hi s) : ∀ i f cs,s.hp i = some (f,cs) → ¬ (lo ≤ i ∧ i < hi) ∧ names lo hi cs = false ∧ ∀ e ∈ cs,Cell e := by
  intro i f cs h
  refine ⟨(hcl.hp i f cs h).1,(hcl.hp i f cs h).2,fun e he => ?_⟩
  cases f with
  | false =>
    obtain ⟨_,_,hh,_⟩ := r.mem.vars i cs h
    rcases hh.cell with hs | ⟨t,p,rfl⟩ | ⟨va,n,ks,vs,rfl⟩
    · exact solid_cell hs e he
    rotate_left
    · simp only [List.mem_cons,List.not_mem_nil,or_false] at he
      rcases he with rfl | rfl <;> trivial
    · simp only [List.mem_cons,List.not_mem_nil,or_false] at he
      rcases he with rfl | rfl | rfl <;> trivial
  | true =>
    obtain ⟨j,hj,rfl⟩ := List.mem_iff_getElem.1 he
    obtain ⟨v,_,_,h3⟩ := r.mem.froz i cs h j hj
    rw [nth_lt cs _ hj] at h3
    rw [h3]
    exact cell_pure1 _

theorem then_holds {o : Out} {k : D → Upd → Prop} (h : o.then k) : ∃ v u,o.holds v u ∧ k v u := by
  cases o with
  | bad => exact h.elim
  | ok v u => exact ⟨v,u,.inl rfl,h⟩
  | ask p v u => exact ⟨v,u,.inr (.inl ⟨p,h.1,rfl⟩),h.2⟩
  | chk b v u =>
    cases b with
    | true => exact ⟨v,u,.inr (.inr (.inl rfl)),h⟩
    | false => exact h.elim
  | alt b v u v' u' =>
    cases b with
    | true => exact ⟨v,u,.inr (.inr (.inr (.inl ⟨v',u',rfl⟩))),h⟩
    | false => exact ⟨v',u',.inr (.inr (.inr (.inr ⟨v,u,rfl⟩))),h⟩

theorem holds_then {o : Out} {k : D → Upd → Prop} {v : D} {u : Upd} (h : o.holds v u) (hk : k v u) : o.then k := by
  rcases h with rfl | ⟨p,hp,rfl⟩ | rfl | ⟨_,_,rfl⟩ | ⟨_,_,rfl⟩
  · exact hk
  · exact ⟨hp,hk⟩
  · exact hk
  · exact hk
  · exact hk

def St.next (s : St) (dst : Option Nat) (v : D) (u : Upd) : St := ⟨setDst dst v s.fr,updH s.hp u.h,updT s.tk u.t⟩

theorem op_clean (r : Rel F B np w0 ext σ0 G s a w) (hcl : Clean lo hi s) {ao : AOp} {xs : List AX} (hok : opOk ao = true) (hax : xs.all axOk = true) {id : Nat} (hid : id + idsOf ao ≤ lo ∨ hi ≤ id) {v : D} {u : Upd}
    (hh : (outOf ao id s.hp s.tk (evs s.fr xs)).holds v u) (dst : Option Nat) : Clean lo hi (s.next dst v u) := by
  obtain ⟨h1,h2,h3⟩ := out_clean hh hok (evs_ok r hcl hax) (hp_ok r hcl) hcl.tk hid
  exact hcl.after h1 h2 h3 dst

theorem op_rel (hft : ∀ f j,ag ft f = some j → F j = f) (r : Rel F B np w0 ext σ0 G s a w) {o : Oper} {ao : AOp} {xs : List AX} (ht : trOp P ft np o = some (ao,xs)) (hnc : isCall ao = false) {id : Nat} (hnp : np ≤ id) (hcl : Clean id (id + idsOf ao) s) {v : D} {u : Upd}
    (hh : (outOf ao id s.hp s.tk (evs s.fr xs)).holds v u) (dst : Option Nat) :
    ∃ w' r' v' G',(execOp a.eval o).run P w = .ok r' w' ∧ (r' = .value v' ∨ r' = .skip ∧ v' = undef) ∧ Rel F B np w0 ext σ0 G' (s.next dst v u) (a.put dst v') w' := by
  obtain ⟨w',r',v',G',h1,h2,h3,h4,h5⟩ := op_does hft r o ao xs ht hnc id hcl v u hh
  exact ⟨w',r',v',G',h1,h2,r.put hnp hcl h5 h3 h4 dst⟩

end
end Go.Abs

/- What a call is given and leaves; the caller's memory behind a call. -/
namespace Go.Abs
open Go

def G0 (σ : Sg) (ext : List Nat) : Gh := ⟨σ,fun k => ext.getD k 0,fun _ => undef⟩

structure CPre (F : Nat → FuncId) (σ : Sg) (w : World) (ext : List Nat) (vals : Array Value) (ds : List D) (bs : List (List D)) : Prop where
  stab : ∀ b o v,σ b o = some v → v.oneCell' = true ∧ ∃ c e fz,w.heap[b]? = some (.cells c e fz) ∧ c[o]? = some v
  size : vals.size = ds.length
  args : ∀ j,j < ds.length → Rd F (G0 σ ext) (fun _ => none) (vals.getD j undef) (nth ds j .dead)
  clean : ∀ j,j < ds.length → ∀ h,(nth ds j .dead).names bs.length h = false
  len : ext.length = bs.length
  nodup : ext.Nodup
  blocks : ∀ k,k < bs.length → solid (bs.getD k []) = true ∧ (∃ c e,w.heap[ext.getD k 0]? = some (.cells c e (0,0)) ∧ c.size = (bs.getD k []).length ∧
    (∀ j,j < (bs.getD k []).length → Rp σ (c.getD j undef) (nth (bs.getD k []) j .dead) ∧ nth (bs.getD k []) j .dead = (nth (bs.getD k []) j .dead).pure1) ∧ ∀ o,σ (ext.getD k 0) o = none)

def ResR (σ : Sg) (w : World) (B : Nat) (v : Value) : D → Prop
  | .agg c => ∃ cs,v = .agg cs ∧ cs.size = c.length ∧ ∀ j,j < c.length → Rp σ (cs.getD j undef) (nth c j .dead).pure1
  | .slice (.own _) z n g => Rp σ v (.slice .ro z n g) ∧ ∃ a c,v = .slice a n c ∧ n ≤ c ∧ (n < c → ∃ b cur e,a = some ⟨b,0,none⟩ ∧ w.heap[b]? = some (.cells cur e (0,0)) ∧ cur.size = c * z ∧ (∀ o,n * z ≤ o → σ b o = none) ∧ B ≤ b)
  | .newp l => ∃ b c e,v = .pointer (some ⟨b,0,none⟩) ∧ B ≤ b ∧ w.heap[b]? = some (.cells c e (0,0)) ∧ c.size = l.length ∧ (∀ j,j < l.length → Rp σ (c.getD j undef) (nth l j .dead).pure1) ∧ ∀ o,σ b o = none
  | d => Rp σ v d.pure1

def ResOwns (v : Value) (d : D) (b : Nat) : Prop := ∃ i z n g c,d = .slice (.own i) z n g ∧ v = .slice (some ⟨b,0,none⟩) n c ∧ n < c

def packV (vs : Array Value) : Value := if h : vs.size = 1 then vs[0] else .tuple vs

structure CPost (σ : Sg) (w : World) (ext : List Nat) (w' : World) (σ' : Sg) (rs : List D) (bs' : List (List D)) (vs : Array Value) : Prop where
  stab : ∀ b o v,σ' b o = some v → v.oneCell' = true ∧ ∃ c e fz,w'.heap[b]? = some (.cells c e fz) ∧ c[o]? = some v
  le : SgLe σ σ'
  old : ∀ b o,b < w.heap.size → σ' b o = σ b o
  os : w'.os = w.os
  tape : w'.tape = w.tape
  output : w'.output = w.output
  base : w.heap.size ≤ w'.heap.size
  keep : ∀ b,b < w.heap.size → b ∉ ext → w'.heap[b]? = w.heap[b]?
  blocks : ∀ k,k < bs'.length → k < ext.length → ∃ c e,w'.heap[ext.getD k 0]? = some (.cells c e (0,0)) ∧ c.size = (bs'.getD k []).length ∧
    ∀ j,j < (bs'.getD k []).length → Rp σ' (c.getD j undef) (nth (bs'.getD k []) j .dead).pure1
  size : vs.size = rs.length
  res : ∀ j,j < rs.length → ResR σ' w' w.heap.size (vs.getD j undef) (nth rs j .dead)
  own : ∀ i j b,i < rs.length → j < rs.length → ResOwns (vs.getD i undef) (nth rs i .dead) b → ResOwns (vs.getD j undef) (nth rs j .dead) b → i = j

structure CSound (P : Program) (F : Nat → FuncId) (f : FuncId) (C : Contract) : Prop where
  enter : ∀ (args : Array Value) (w : World),(callFunc f args).run P w = .ok (.enter f args) w
  mono : ∀ ds bs K K',(∀ rs bs',K rs bs' → K' rs bs') → C ds bs K → C ds bs K'
  feas : ∀ ds bs K,C ds bs K → ∃ rs bs',K rs bs'
  calls : ∀ σ w ext vals ds bs K,CPre F σ w ext vals ds bs → C ds bs K → Calls P f vals w fun e w' => ∃ vs rs bs' σ',e = .returned (packV vs) ∧ K rs bs' ∧ CPost σ w ext w' σ' rs bs' vs

structure CExt (P : Program) (F : Nat → FuncId) (f : FuncId) (C : Contract) : Prop where
  mono : ∀ ds bs K K',(∀ rs bs',K rs bs' → K' rs bs') → C ds bs K → C ds bs K'
  feas : ∀ ds bs K,C ds bs K → ∃ rs bs',K rs bs'
  calls : ∀ σ w ext vals ds bs K,CPre F σ w ext vals ds bs → C ds bs K → ∃ w' vs rs bs' σ',(callFunc f vals).run P w = .ok (.value (packV vs)) w' ∧ K rs bs' ∧ CPost σ w ext w' σ' rs bs' vs

def COk (P : Program) (F : Nat → FuncId) (f : FuncId) (C : Contract) : Prop := CSound P F f C ∨ CExt P F f C

theorem COk.mono {P : Program} {F : Nat → FuncId} {f : FuncId} {C : Contract} (h : COk P F f C) : ∀ ds bs K K',(∀ rs bs',K rs bs' → K' rs bs') → C ds bs K → C ds bs K' := h.elim (·.mono) (·.mono)
theorem COk.feas {P : Program} {F : Nat → FuncId} {f : FuncId} {C : Contract} (h : COk P F f C) : ∀ ds bs K,C ds bs K → ∃ rs bs',K rs bs' := h.elim (·.feas) (·.feas)

def EnvOk (P : Program) (F : Nat → FuncId) (E : Env) : Prop := ∀ j C,ag E j = some C → COk P F (F j) C

section
variable {P : Program} {F : Nat → FuncId} {B np : Nat} {w0 w w' : World} {ext : List Nat} {σ0 : Sg} {G G' : Gh} {s : St} {a : Act} {hp : Nat → Option (Bool × List D)} {tk : Nat → Option (Nat × Nat)}

theorem updT_out : ∀ {l : List (Nat × Nat × Nat)} {tk : Nat → Option (Nat × Nat)} {j : Nat},(∀ x ∈ l,x.1 ≠ j) → updT tk l j = tk j
  | [],_,_,_ => rfl
  | (i,e) :: l,tk,j,h => by
    simp only [updT]
    rw [updT_out (fun x hx => h x (List.mem_cons_of_mem _ hx))]
    have : Nat.beq j i = false := by
      cases hh : Nat.beq j i with
      | false => rfl
      | true => exact absurd (Nat.eq_of_beq_eq_true hh).symm (h (i,e) (by simp))
    rw [this]
    rfl

theorem newToks_ge : ∀ (l : List D) (i : Nat) (x : Nat × Nat × Nat),x ∈ newToks l i → i ≤ x.1
  | [],_,_,h => by simp [newToks] at h
  | d :: l,i,x,h => by
    have other : x ∈ newToks l (i + 1) → i ≤ x.1 := fun h => by have := newToks_ge l (i + 1) x h; omega
    cases d with
    | slice t z n g =>
      cases t with
      | own j =>
        simp only [newToks,List.mem_cons] at h
        rcases h with rfl | h
        · exact Nat.le_refl _
        · exact other h
      | _ => exact other h
    | _ => exact other h

def tokAt (l : List D) (i j : Nat) : Option (Nat × Nat) := match nth l (j - i) .dead with
  | .slice (.own _) z n _ => if i ≤ j ∧ j < i + l.length then some (z,n) else none
  | _ => none

theorem newToks_get : ∀ (l : List D) (i : Nat) (tk : Nat → Option (Nat × Nat)) (j : Nat),updT tk (newToks l i) j = match tokAt l i j with
    | some e => some e
    | none => tk j
  | [],i,tk,j => by simp [newToks,updT,tokAt,nth]
  | d :: l,i,tk,j => by
    have hlt : j < i → updT tk (newToks (d :: l) i) j = tk j := fun h => updT_out fun x hx => by have := newToks_ge _ _ _ hx; omega
    rcases Nat.lt_trichotomy j i with h | h | h
    · rw [hlt h]
      have : tokAt (d :: l) i j = none := by
        unfold tokAt
        split
        · rw [if_neg (by omega)]
        · rfl
      rw [this]
    · subst h
      have h0 : ∀ tk',updT tk' (newToks l (j + 1)) j = tk' j := fun tk' => updT_out fun x hx => by have := newToks_ge _ _ _ hx; omega
      cases d with
      | slice t z n g =>
        cases t with
        | own q =>
          simp only [newToks,updT]
          rw [h0]
          simp [tokAt,nth]
        | ro => simp only [newToks]; rw [h0]; simp [tokAt,nth]
        | full => simp only [newToks]; rw [h0]; simp [tokAt,nth]
      | _ => simp only [newToks]; rw [h0]; simp [tokAt,nth]
    · have h1 : tokAt (d :: l) i j = tokAt l (i + 1) j := by
        unfold tokAt
        rw [show j - i = (j - (i + 1)) + 1 from by omega]
        simp only [nth,List.length_cons]
        split
        · congr 1
          simp only [eq_iff_iff]
          omega
        · rfl
      rw [h1]
      cases d with
      | slice t z n g =>
        cases t with
        | own q =>
          simp only [newToks,updT]
          rw [newToks_get l (i + 1)]
          have : Nat.beq j i = false := by
            cases hh : Nat.beq j i with
            | false => rfl
            | true => have := Nat.eq_of_beq_eq_true hh; omega
          rw [this]
          rfl
        | ro => simp only [newToks]; exact newToks_get l (i + 1) tk j
        | full => simp only [newToks]; exact newToks_get l (i + 1) tk j
      | _ => simp only [newToks]; exact newToks_get l (i + 1) tk j

theorem length_pureRes (l : List D) : (pureRes l).length = l.length := by
  induction l with
  | nil => rfl
  | cons d l ih => simp [pureRes,ih]

theorem nth_pureRes (l : List D) (j : Nat) : nth (pureRes l) j .dead = (nth l j .dead).res := by
  induction l generalizing j with
  | nil => rfl
  | cons d l ih => cases j with
    | zero => rfl
    | succ j => exact ih j

theorem length_retag (l : List D) (i : Nat) : (retag l i).length = l.length := by
  induction l generalizing i with
  | nil => rfl
  | cons d l ih =>
    cases d with
    | slice t z n g => cases t <;> simp [retag,ih]
    | _ => simp [retag,ih]

def D.own (i : Nat) : D → D
  | .slice (.own _) z n g => .slice (.own i) z n g
  | d => d

theorem nth_retag (l : List D) (i j : Nat) : nth (retag l i) j .dead = (nth l j .dead).own (i + j) := by
  induction l generalizing i j with
  | nil => rfl
  | cons d l ih =>
    cases j with
    | zero =>
      cases d with
      | slice t z n g => cases t <;> rfl
      | _ => rfl
    | succ j =>
      have h1 := ih (i + 1) j
      rw [show i + 1 + j = i + (j + 1) from by omega] at h1
      cases d with
      | slice t z n g => cases t <;> exact h1
      | _ => exact h1

theorem zip_get : ∀ (ids : List Nat) (bs : List (List D)) (hp : Nat → Option (Bool × List D)),distinct ids = true → ids.length = bs.length → ∀ j x,updH hp (zipBlocks ids bs) j = some x →
    (∃ k,k < ids.length ∧ ids.getD k 0 = j ∧ x = (false,bs.getD k [])) ∨ (j ∉ ids ∧ hp j = some x)
  | [],[],hp,_,_,j,x,h => .inr ⟨by simp,h⟩
  | [],_ :: _,_,_,h,_,_,_ => by simp at h
  | _ :: _,[],_,_,h,_,_,_ => by simp at h
  | id :: ids,b :: bs,hp,hd,hl,j,x,h => by
    simp only [zipBlocks,updH] at h
    have hd2 : ids.any (Nat.beq id) = false ∧ distinct ids = true := by
      simp only [distinct] at hd
      cases hh : ids.any (Nat.beq id) with
      | true => rw [hh] at hd; cases hd
      | false => rw [hh] at hd; exact ⟨rfl,hd⟩
    rcases zip_get ids bs _ hd2.2 (by simpa using hl) j x h with ⟨k,h1,h2,h3⟩ | ⟨h1,h2⟩
    · exact .inl ⟨k + 1,by simpa using h1,by simpa using h2,by simpa using h3⟩
    · rcases get_upd h2 with ⟨rfl,rfl⟩ | ⟨h3,h4⟩
      · exact .inl ⟨0,by simp,by simp,by simp⟩
      · exact .inr ⟨by simp [h1,h3],h4⟩

theorem blocks_some : ∀ {ids : List Nat} {bs : List (List D)},blocksOf hp ids = some bs → ids.length = bs.length ∧ ∀ k,k < ids.length → ∃ cs,hp (ids.getD k 0) = some (false,cs) ∧ bs.getD k [] = pures cs ∧ solid (pures cs) = true
  | [],bs,h => by cases h; exact ⟨rfl,fun k hk => by simp at hk⟩
  | id :: l,bs,h => by
    simp only [blocksOf] at h
    split at h
    · rename_i cs r h1 h2
      cases hs : solid (pures cs) with
      | false => rw [hs] at h; cases h
      | true =>
        rw [hs] at h
        cases h
        obtain ⟨h3,h4⟩ := blocks_some h2
        refine ⟨by simp [h3],fun k hk => ?_⟩
        cases k with
        | zero => exact ⟨cs,by simpa using h1,by simp,hs⟩
        | succ k => simpa using h4 k (by simpa using hk)
    · cases h

theorem distinct_nodup : ∀ {l : List Nat},distinct l = true → l.Nodup
  | [],_ => List.nodup_nil
  | a :: l,h => by
    simp only [distinct] at h
    cases hh : l.any (Nat.beq a) with
    | true => rw [hh] at h; cases h
    | false =>
      rw [hh] at h
      refine List.nodup_cons.2 ⟨fun hm => ?_,distinct_nodup h⟩
      have := List.any_eq_false.1 hh a hm
      rw [Nat.beq_refl] at this
      exact this rfl

theorem length_puress (bs : List (List D)) : (puress bs).length = bs.length := by
  induction bs with
  | nil => rfl
  | cons b bs ih => simp [puress,ih]

theorem puress_getD (bs : List (List D)) (k : Nat) : (puress bs).getD k [] = pures (bs.getD k []) := by
  induction bs generalizing k with
  | nil => simp [puress,pures]
  | cons b bs ih =>
    cases k with
    | zero => simp [puress]
    | succ k => simpa [puress] using ih k

theorem solids_getD {bs : List (List D)} (h : solids bs = true) {k : Nat} (hk : k < bs.length) : solid (bs.getD k []) = true := by
  induction bs generalizing k with
  | nil => simp at hk
  | cons b bs ih =>
    simp only [solids,Bool.and_eq_true] at h
    cases k with
    | zero => simpa using h.1
    | succ k => simpa using ih h.2 (by simpa using hk)

theorem res_rt {σ' : Sg} {B' : Nat} {v : Value} {d : D} {i : Nat} (h : ResR σ' w' B' v d) {G' : Gh} {tk' : Nat → Option (Nat × Nat)} (hσ : G'.σ = σ') (hown : ∀ q z n g,d = .slice (.own q) z n g → tk' i = some (z,n) ∧ G'.ρ i = v) : Rt F G' tk' v (d.res.own i) := by
  subst hσ
  cases d with
  | agg c =>
    obtain ⟨cs,rfl,h1,h2⟩ := h
    exact .agg cs (pures c) (by rw [length_pures]; exact h1) fun j hj => by
      rw [length_pures] at hj
      rw [nth_pures]
      exact ⟨h2 j hj,(pure1_pure1 _).symm⟩
  | slice t z n g =>
    cases t with
    | own q =>
      obtain ⟨h1,h2⟩ := hown q z n g rfl
      refine .cell (.pure ?_ ?_)
      · cases h.1 with
        | slice a _ c _ _ _ b o val e1 e2 e3 e4 e5 => exact .slice a n c _ z g b o val e1 e2 e3 e4 e5
      · intro z' m' hz
        rw [h1] at hz
        cases hz
        exact ⟨Nat.le_refl _,fun _ => h2.symm⟩
    | ro => exact .cell (.pure h trivial)
    | full => exact .cell (.pure h trivial)
  | newp l => exact .cell (.pure (.dead _) trivial)
  | _ => exact .cell (.pure h trivial)

theorem call_mem (r : Rel F B np w0 ext σ0 G s a w) {id : Nat} (hnp : np ≤ id) (hcl : Clean id (id + 4) s) {ids : List Nat} {bs bs' : List (List D)} (hb : blocksOf s.hp ids = some bs) (hd : distinct ids = true) {σ' : Sg} {rs : List D} {vs : Array Value}
    (post : CPost G.σ w (ids.map G.β) w' σ' rs bs' vs) (hlen : bs'.length = bs.length) (h4 : rs.length ≤ 4) (hsol : solids (puress bs') = true) :
    ∃ G',G'.σ = σ' ∧ Keeps id (id + 4) G G' s.tk (updT s.tk (newToks (pureRes rs) id)) ∧ Mem F B np w0 ext σ0 G' (updH s.hp (zipBlocks ids (puress bs'))) (updT s.tk (newToks (pureRes rs) id)) w' ∧
      (∀ b k,Owns G' (updH s.hp (zipBlocks ids (puress bs'))) (updT s.tk (newToks (pureRes rs) id)) b k → b < w.heap.size ∨ ∃ j q z n g,j < rs.length ∧ nth rs j .dead = .slice (.own q) z n g) ∧
      ∀ j,j < rs.length → Rt F G' (updT s.tk (newToks (pureRes rs) id)) (vs.getD j undef) (nth (retag (pureRes rs) id) j .dead) := by
  have m := r.mem
  obtain ⟨hl,hbs⟩ := blocks_some hb
  have hlt : ∀ k,k < ids.length → Owns G s.hp s.tk (G.β (ids.getD k 0)) (.inl (ids.getD k 0)) := fun k hk => by
    obtain ⟨cs,h1,_⟩ := hbs k hk
    exact ⟨cs,h1,rfl⟩
  have hmem : ∀ b,b ∈ ids.map G.β → ∃ k,k < ids.length ∧ b = G.β (ids.getD k 0) := by
    intro b hb
    obtain ⟨i,hi,rfl⟩ := List.mem_map.1 hb
    obtain ⟨k,hk,rfl⟩ := List.mem_iff_getElem.1 hi
    exact ⟨k,hk,by simp [hk]⟩
  have hext : ∀ k,k < ids.length → (ids.map G.β).getD k 0 = G.β (ids.getD k 0) := by
    intro k hk
    simp [hk]
  let G' : Gh := ⟨σ',G.β,fun i => if id ≤ i ∧ i < id + rs.length then vs.getD (i - id) undef else G.ρ i⟩
  have htk : ∀ j z n,updT s.tk (newToks (pureRes rs) id) j = some (z,n) → (id ≤ j ∧ j < id + rs.length ∧ ∃ q g,nth rs (j - id) .dead = .slice (.own q) z n g) ∨ (s.tk j = some (z,n) ∧ ¬ (id ≤ j ∧ j < id + 4)) := by
    intro j z n h
    rw [newToks_get] at h
    split at h
    · rename_i e he
      cases h
      unfold tokAt at he
      split at he
      · rename_i q z' n' g hq
        split at he
        · rename_i hr
          cases he
          rw [length_pureRes] at hr
          rw [nth_pureRes] at hq
          refine .inl ⟨hr.1,hr.2,q,g,?_⟩
          generalize nth rs (j - id) .dead = d at hq
          cases d with
          | slice t z' n' g' => cases t <;> simp_all [D.res,D.pure1]
          | _ => simp [D.res,D.pure1] at hq
        · cases he
      · cases he
    · exact .inr ⟨h,hcl.tk _ _ h⟩
  have keeps : Keeps id (id + 4) G G' s.tk (updT s.tk (newToks (pureRes rs) id)) := by
    refine ⟨post.le,fun _ _ => rfl,fun i z n hi h => ?_⟩
    rcases htk i z n h with ⟨h1,h2,_⟩ | ⟨h1,_⟩
    · exact absurd ⟨h1,by omega⟩ hi
    · exact ⟨z,n,h1,Nat.le_refl _,fun _ => by show (if id ≤ i ∧ i < id + rs.length then _ else G.ρ i) = G.ρ i; rw [if_neg (by omega)]⟩
  have keepB : ∀ b,b < w.heap.size → (∀ k,k < ids.length → b ≠ G.β (ids.getD k 0)) → w'.heap[b]? = w.heap[b]? := fun b h1 h2 => post.keep b h1 fun h => by
    obtain ⟨k,hk,h3⟩ := hmem b h
    exact h2 k hk h3
  have resAt : ∀ j q z n g,id ≤ j → j < id + rs.length → nth rs (j - id) .dead = .slice (.own q) z n g → ∃ a' c,G'.ρ j = .slice a' n c ∧ n ≤ c ∧ (n < c → ∃ b cur e,a' = some ⟨b,0,none⟩ ∧ w'.heap[b]? = some (.cells cur e (0,0)) ∧ cur.size = c * z ∧ (∀ o,n * z ≤ o → σ' b o = none) ∧ w.heap.size ≤ b) := by
    intro j q z n g h1 h2 h3
    have := post.res (j - id) (by omega)
    rw [h3] at this
    obtain ⟨_,a',c,h5,h6,h7⟩ := this
    refine ⟨a',c,?_,h6,h7⟩
    show (if id ≤ j ∧ j < id + rs.length then _ else _) = _
    rw [if_pos ⟨h1,h2⟩,h5]
  have hown : ∀ b k,Owns G' (updH s.hp (zipBlocks ids (puress bs'))) (updT s.tk (newToks (pureRes rs) id)) b k → Owns G s.hp s.tk b k ∨ (w.heap.size ≤ b ∧ ∃ j,k = .inr j ∧ id ≤ j ∧ j < id + rs.length ∧ ResOwns (vs.getD (j - id) undef) (nth rs (j - id) .dead) b) := by
    intro b k hk
    cases k with
    | inl j =>
      obtain ⟨cs,h1,h2⟩ := hk
      rcases zip_get ids (puress bs') s.hp hd (by rw [length_puress]; omega) j _ h1 with ⟨k,hk,h3,_⟩ | ⟨_,h3⟩
      · obtain ⟨cs0,h5,_⟩ := hbs k hk
        rw [h3] at h5
        exact .inl ⟨cs0,h5,h2⟩
      · exact .inl ⟨cs,h3,h2⟩
    | inr j =>
      obtain ⟨z,n,c,h1,h2,h3⟩ := hk
      rcases htk j z n h1 with ⟨h5,h6,q,g,h7⟩ | ⟨h5,h6⟩
      · obtain ⟨a',c',h8,h9,h10⟩ := resAt j q z n g h5 h6 h7
        rw [h2] at h8
        cases h8
        obtain ⟨b',cur,e,h11,_,_,_,h12⟩ := h10 h3
        cases h11
        refine .inr ⟨h12,j,rfl,h5,h6,q,z,n,g,c,h7,?_,h3⟩
        have : G'.ρ j = vs.getD (j - id) undef := by
          show (if id ≤ j ∧ j < id + rs.length then _ else _) = _
          rw [if_pos ⟨h5,h6⟩]
        rw [← this]
        exact h2
      · refine .inl ⟨z,n,c,h5,?_,h3⟩
        rw [← h2]
        show G.ρ j = (if id ≤ j ∧ j < id + rs.length then _ else G.ρ j)
        rw [if_neg (by omega)]
  have mem : Mem F B np w0 ext σ0 G' (updH s.hp (zipBlocks ids (puress bs'))) (updT s.tk (newToks (pureRes rs) id)) w' := by
    refine ⟨post.stab,fun b o hB => ?_,post.os.trans m.os,post.tape.trans m.tape,post.output.trans m.output,Nat.le_trans m.base post.base,fun b hB he => ?_,fun j cs h => ?_,fun j cs h => ?_,fun j z n h => ?_,fun b k k' h h' => ?_,fun b k h => ?_⟩
    · rw [← m.old b o hB]
      exact post.old b o (Nat.lt_of_lt_of_le hB m.base)
    · rw [← m.keep b hB he]
      refine keepB b (Nat.lt_of_lt_of_le hB m.base) fun k hk hbk => ?_
      rcases m.own2 _ _ (hlt k hk) with h | ⟨h,_⟩
      · omega
      · rw [← hbk] at h
        exact he h
    · rcases zip_get ids (puress bs') s.hp hd (by rw [length_puress]; omega) j _ h with ⟨k,hk,rfl,h3⟩ | ⟨h2,h3⟩
      · simp only [Prod.mk.injEq,true_and] at h3
        subst h3
        obtain ⟨cs0,h5,_⟩ := hbs k hk
        obtain ⟨_,_,_,h6⟩ := m.vars _ cs0 h5
        obtain ⟨c,e,h7,h8,h9⟩ := post.blocks k (by omega) (by simpa using hk)
        rw [hext k hk] at h7
        refine ⟨_,h7,.inl ⟨solids_getD hsol (by rw [length_puress]; omega),c,e,rfl,by rw [puress_getD,length_pures]; exact h8,fun q hq => ?_⟩,fun o => ?_⟩
        · rw [puress_getD,length_pures] at hq
          rw [puress_getD,nth_pures]
          exact .pure (h9 q hq) (tagR_pure1 _ _)
        · show σ' (G.β _) o = none
          rw [post.old _ o (m.own_lt (hlt k hk))]
          exact h6 o
      · obtain ⟨o1,h6,h8,h9⟩ := m.vars j cs h3
        have ow : Owns G s.hp s.tk (G.β j) (.inl j) := ⟨cs,h3,rfl⟩
        have hne : ∀ k,k < ids.length → G.β j ≠ G.β (ids.getD k 0) := by
          intro k hk hh
          have := hlt k hk
          rw [← hh] at this
          have := m.own1 _ _ _ ow this
          simp only [Sum.inl.injEq] at this
          rw [this] at h2
          exact h2 (by rw [List.getD_eq_getElem?_getD]; simp [hk])
        refine ⟨o1,?_,h8.imp fun q v hq hr => hr.keep keeps (names_nth (hcl.hp j _ cs h3).2 hq),fun o => ?_⟩
        · show w'.heap[G.β j]? = _
          rw [keepB _ (m.own_lt ow) hne]
          exact h6
        · show σ' (G.β j) o = none
          rw [post.old _ o (m.own_lt ow)]
          exact h9 o
    · rcases zip_get ids (puress bs') s.hp hd (by rw [length_puress]; omega) j _ h with ⟨k,hk,h2,h3⟩ | ⟨h2,h3⟩
      · cases h3
      · intro q hq
        obtain ⟨v,h5,h6,h7⟩ := m.froz j cs h3 q hq
        exact ⟨v,post.le _ _ _ h5,h6.mono post.le,h7⟩
    · rcases htk j z n h with ⟨h5,h6,q,g,h7⟩ | ⟨h5,h6⟩
      · obtain ⟨a',c',h8,h9,h10⟩ := resAt j q z n g h5 h6 h7
        refine ⟨a',c',h8,h9,fun hn => ?_⟩
        obtain ⟨b,cur,e,e1,e2,e3,e4,_⟩ := h10 hn
        exact ⟨b,cur,e,e1,e2,e3,e4⟩
      · obtain ⟨a',c',h8,h9,h10⟩ := m.toks j z n h5
        refine ⟨a',c',?_,h9,fun hn => ?_⟩
        · show (if id ≤ j ∧ j < id + rs.length then _ else G.ρ j) = _
          rw [if_neg (by omega)]
          exact h8
        · obtain ⟨b,cur,e,e1,e2,e3,e4⟩ := h10 hn
          have ow : Owns G s.hp s.tk b (.inr j) := ⟨z,n,c',h5,by rw [h8,e1],hn⟩
          refine ⟨b,cur,e,e1,?_,e3,fun o ho => ?_⟩
          · rw [keepB b (m.own_lt ow) fun k hk hh => ?_]
            · exact e2
            · have := hlt k hk
              rw [← hh] at this
              have := m.own1 _ _ _ ow this
              cases this
          · show σ' b o = none
            rw [post.old _ o (m.own_lt ow)]
            exact e4 o ho
    · rcases hown b k h with h1 | ⟨h1,j,rfl,h2,h3,h5⟩
      · rcases hown b k' h' with h6 | ⟨h6,_⟩
        · exact m.own1 b k k' h1 h6
        · have := m.own_lt h1
          omega
      · rcases hown b k' h' with h6 | ⟨h6,j',rfl,h7,h8,h9⟩
        · have := m.own_lt h6
          omega
        · have := post.own (j - id) (j' - id) b (by omega) (by omega) h5 h9
          congr 1
          omega
    · rcases hown b k h with h1 | ⟨h1,_⟩
      · exact m.own2 b k h1
      · exact .inl (Nat.le_trans m.base h1)
  have tokSome : ∀ j q z n g,j < rs.length → nth rs j .dead = .slice (.own q) z n g → updT s.tk (newToks (pureRes rs) id) (id + j) = some (z,n) ∧ G'.ρ (id + j) = vs.getD j undef := by
    intro j q z n g hj hr
    refine ⟨?_,?_⟩
    · rw [newToks_get]
      have : tokAt (pureRes rs) id (id + j) = some (z,n) := by
        unfold tokAt
        rw [show id + j - id = j from by omega,nth_pureRes,hr]
        simp only [D.res,length_pureRes]
        rw [if_pos (by omega)]
      rw [this]
    · show (if id ≤ id + j ∧ id + j < id + rs.length then _ else _) = _
      rw [if_pos (by omega),show id + j - id = j from by omega]
  have rts : ∀ j,j < rs.length → Rt F G' (updT s.tk (newToks (pureRes rs) id)) (vs.getD j undef) (nth (retag (pureRes rs) id) j .dead) := by
    intro j hj
    rw [nth_retag,nth_pureRes]
    exact res_rt (post.res j hj) rfl fun q z n g hr => tokSome j q z n g hj hr
  refine ⟨G',rfl,keeps,mem,fun b k hk => ?_,rts⟩
  rcases hown b k hk with h | ⟨_,j,_,h1,h2,q,z,n,g,c,h3,_⟩
  · exact .inl (m.own_lt h)
  · exact .inr ⟨j - id,q,z,n,g,by omega,h3⟩

theorem call_after (r : Rel F B np w0 ext σ0 G s a w) {id : Nat} (hnp : np ≤ id) (hcl : Clean id (id + 4) s) {ids : List Nat} {bs bs' : List (List D)} (hb : blocksOf s.hp ids = some bs) (hd : distinct ids = true) {σ' : Sg} {rs : List D} {vs : Array Value}
    (post : CPost G.σ w (ids.map G.β) w' σ' rs bs' vs) (hlen : bs'.length = bs.length) (h4 : rs.length ≤ 4) (hsol : solids (puress bs') = true) (dst : Option Nat) :
    ∃ G',Rel F B np w0 ext σ0 G' (s.next dst (packRes (retag (pureRes rs) id)) ⟨zipBlocks ids (puress bs'),newToks (pureRes rs) id⟩) (a.put dst (packV vs)) w' := by
  obtain ⟨G',_,keeps,mem,_,rts⟩ := call_mem r hnp hcl hb hd post hlen h4 hsol
  refine ⟨G',r.put hnp hcl keeps mem ?_ dst⟩
  have hsz := post.size
  match rs,hsz,rts with
  | [d],hsz,rts =>
    have h1 := rts 0 (by simp)
    have e : retag (pureRes [d]) id = [nth (retag (pureRes [d]) id) 0 .dead] := by
      cases hq : retag (pureRes [d]) id with
      | nil => have := length_retag (pureRes [d]) id; rw [hq] at this; simp [length_pureRes] at this
      | cons x l =>
        have := length_retag (pureRes [d]) id
        rw [hq] at this
        simp [length_pureRes] at this
        subst this
        rfl
    rw [e]
    have e2 : packV vs = vs.getD 0 undef := by
      have : vs.size = 1 := hsz
      simp [packV,this,Array.getD_eq_getD_getElem?]
    rw [e2]
    exact .any h1.ra
  | [],hsz,rts =>
    have e2 : packV vs = .tuple vs := by
      have : vs.size = 0 := hsz
      simp [packV,this]
    rw [e2]
    exact .tup vs [] hsz fun j hj => by simp at hj
  | d :: d' :: l,hsz,rts =>
    have e2 : packV vs = .tuple vs := by
      have : ¬ vs.size = 1 := by rw [hsz]; simp
      simp [packV,this]
    have e1 : packRes (retag (pureRes (d :: d' :: l)) id) = .tup (retag (pureRes (d :: d' :: l)) id) := by
      have := length_retag (pureRes (d :: d' :: l)) id
      generalize retag (pureRes (d :: d' :: l)) id = x at this
      match x,this with
      | a :: b :: c,_ => rfl
    rw [e1,e2]
    exact .tup vs _ (by rw [length_retag,length_pureRes]; exact hsz) fun j hj => rts j (by rw [length_retag,length_pureRes] at hj; exact hj)

theorem updH_app (hp : Nat → Option (Bool × List D)) (l m : List (Nat × Bool × List D)) : updH hp (l ++ m) = updH (updH hp l) m := by
  induction l generalizing hp with
  | nil => rfl
  | cons x l ih => obtain ⟨i,e⟩ := x; simp only [List.cons_append,updH,ih]

theorem call_after_new (r : Rel F B np w0 ext σ0 G s a w) {id : Nat} (hnp : np ≤ id) (hcl : Clean id (id + 4) s) {ids : List Nat} {bs bs' : List (List D)} (hb : blocksOf s.hp ids = some bs) (hd : distinct ids = true) {σ' : Sg} {l : List D} {vs : Array Value}
    (post : CPost G.σ w (ids.map G.β) w' σ' [.newp l] bs' vs) (hlen : bs'.length = bs.length) (hsol : solids (puress bs') = true) (hl : solid (pures l) = true) (dst : Option Nat) :
    ∃ G',Rel F B np w0 ext σ0 G' (s.next dst (.ptr id 0) ⟨zipBlocks ids (puress bs') ++ [(id,false,pures l)],[]⟩) (a.put dst (packV vs)) w' := by
  have hres := post.res 0 (by simp)
  simp only [nth] at hres
  obtain ⟨b,c,e,hv,hB,hc,hcs,hrp,hσ⟩ := hres
  have post' : CPost G.σ w (ids.map G.β) w' σ' [.dead] bs' vs :=
    { post with
      size := post.size
      res := fun j hj => by
        have : j = 0 := by simpa using hj
        subst this
        exact .dead _
      own := fun i j b hi hj _ _ => by simp at hi hj; omega }
  obtain ⟨G',hσ',keeps,mem,hown,_⟩ := call_mem r hnp hcl hb hd post' hlen (by simp) hsol
  have hlow : ∀ k,¬ Owns G' (updH s.hp (zipBlocks ids (puress bs'))) (updT s.tk (newToks (pureRes [.dead]) id)) b k := fun k hk => by
    rcases hown b k hk with h | ⟨j,q,z,n,g,h1,h2⟩
    · omega
    · have : j = 0 := by simpa using h1
      subst this
      cases h2
  have hclean : ∀ id' f cs',updH s.hp (zipBlocks ids (puress bs')) id' = some (f,cs') → id' ≠ id ∧ names id (id + 1) cs' = false := by
    intro id' f cs' h
    obtain ⟨hl',hbs⟩ := blocks_some hb
    rcases zip_get ids (puress bs') s.hp hd (by rw [length_puress]; omega) id' _ h with ⟨k,hk,rfl,h3⟩ | ⟨_,h3⟩
    · obtain ⟨cs0,h5,_⟩ := hbs k hk
      have := (hcl.hp _ _ _ h5).1
      refine ⟨by omega,?_⟩
      cases h3
      rw [puress_getD]
      exact pures_names _
    · have := hcl.hp _ _ _ h3
      exact ⟨by omega,names_sub this.2 (Nat.le_refl _) (by omega)⟩
  have m2 := mem.addVar id b (pures l) c e hc hl (by rw [length_pures]; exact hcs) (fun j hj => by
      rw [length_pures] at hj
      rw [nth_pures]
      exact .pure (by rw [hσ']; exact hrp j hj) (tagR_pure1 _ _)) (fun o => by rw [hσ']; exact hσ o) hlow (.inl (Nat.le_trans r.mem.base hB))
    (by
      cases hh : updH s.hp (zipBlocks ids (puress bs')) id with
      | none => rfl
      | some x => exact absurd rfl (hclean id x.1 x.2 hh).1)
    (fun id' f cs' h => (hclean id' f cs' h).2)
  refine ⟨{ G' with β := fun j => if j = id then b else G'.β j },?_⟩
  have kk : Keeps id (id + 4) G { G' with β := fun j => if j = id then b else G'.β j } s.tk s.tk :=
    ⟨keeps.σ,fun j hj => by simp only; rw [if_neg (by omega)]; exact keeps.β j hj,fun i z m hi h => keeps.tok i z m hi h⟩
  have hput := r.put (d := .ptr id 0) (v := packV vs) hnp hcl kk m2 (by
    have e2 : packV vs = vs.getD 0 undef := by
      have : vs.size = 1 := post.size
      simp [packV,this,Array.getD_eq_getD_getElem?]
    rw [e2,hv]
    have := Rc.ptr (F := F) (G := { G' with β := fun j => if j = id then b else G'.β j }) (tk := s.tk) id 0
    simp only [if_true] at this
    exact .any (.cell this)) dst
  unfold St.next
  rw [updH_app]
  exact hput

end
end Go.Abs

/- One operation,a call or not,as a step from state to state. -/
namespace Go.Abs
open Go

section
variable {P : Program} {F : Nat → FuncId} {B np : Nat} {w0 w w' : World} {ext : List Nat} {σ0 : Sg} {G G' : Gh} {s : St} {a : Act} {ft : FT} {hp : Nat → Option (Bool × List D)} {tk : Nat → Option (Nat × Nat)} {lo hi : Nat} {E : Env}

theorem solid_of_pures : ∀ {l : List D},solid (pures l) = true → solid l = true
  | [],_ => rfl
  | d :: l,h => by
    cases d <;> first | (simp only [pures,D.pure1,solid] at h; exact solid_of_pures (l := l) h) | (simp [pures,D.pure1,solid] at h; done)

theorem length_argv : ∀ (l : List D) (j : Nat),(argv l j).length = l.length
  | [],_ => rfl
  | d :: l,j => by cases d <;> simp [argv,length_argv l]

theorem Rc.pured {v : Value} {d : D} (h : Rc F G tk v d) {G1 : Gh} (e : G1.σ = G.σ) (hp : ∀ i o,d ≠ .ptr i o) : Rc F G1 (fun _ => none) v d.pure := by
  cases h with
  | pure h1 h2 =>
    have h3 : Rp G1.σ v d.pure1 := e ▸ h1.pure1
    have : d.pure = d.pure1 := by cases h1 <;> rfl
    rw [this]
    exact .pure h3 (tagR_pure1 _ _)
  | ptr i o => exact absurd rfl (hp i o)
  | eptr b o l h1 => exact .eptr b o l (e ▸ h1)
  | fn f cap l h1 h2 => exact .fn f cap l h1 fun j hj => e ▸ h2 j hj
  | mp _ _ _ _ _ _ _ _ _ _ => exact .pure (.dead _) trivial

theorem Rd.pured {v : Value} {d : D} (h : Rd F G tk v d) {G1 : Gh} (e : G1.σ = G.σ) (hp : ∀ i o,d ≠ .ptr i o) : Rd F G1 (fun _ => none) v d.pure := by
  cases h with
  | any h =>
    cases h with
    | cell h => exact .any (.cell (h.pured e hp))
    | agg cs l h1 h2 =>
      refine .any (.agg cs (pures l) (by rw [length_pures]; exact h1) fun j hj => ?_)
      rw [length_pures] at hj
      rw [nth_pures]
      exact .pure (e ▸ (h2 j hj).pure1) (tagR_pure1 _ _)
  | tup vs l h1 h2 => exact Rd.dead _
  | mref id => exact Rd.dead _

theorem argv_rd : ∀ (l : List D) (vals : List Value) (pre : List Nat),(∀ i,i < l.length → Rd F G tk (vals.getD i undef) (nth l i .dead)) → ∀ i,i < l.length →
    Rd F (G0 G.σ ((pre ++ ptrs l).map G.β)) (fun _ => none) (vals.getD i undef) (nth (argv l pre.length) i .dead)
  | [],_,_,_,i,hi => by simp at hi
  | d :: l,vals,pre,h,i,hi => by
    have h0 := h 0 (by simp)
    simp only [nth] at h0
    obtain ⟨v0,vr,hv⟩ : ∃ (v0 : Value) (vr : List Value),∀ i,vals.getD i undef = (v0 :: vr).getD i undef := by
      cases vals with
      | nil => exact ⟨undef,[],fun i => by cases i <;> simp⟩
      | cons x y => exact ⟨x,y,fun _ => rfl⟩
    simp only [hv] at h h0 ⊢
    simp only [List.getD_cons_zero] at h0
    have h' : ∀ i,i < l.length → Rd F G tk (vr.getD i undef) (nth l i .dead) := fun i hi => by
      have := h (i + 1) (by simpa using hi)
      simpa [nth] using this
    by_cases hp : ∃ id off,d = .ptr id off
    · obtain ⟨id,off,rfl⟩ := hp
      simp only [argv,ptrs]
      cases i with
      | zero =>
        have := h0.ptr_inv
        subst this
        simp only [nth,List.getD_cons_zero]
        have : (Value.pointer (some ⟨G.β id,off,none⟩)) = .pointer (some ⟨(G0 G.σ ((pre ++ id :: ptrs l).map G.β)).β pre.length,off,none⟩) := by
          simp [G0]
        rw [this]
        exact .any (.cell (.ptr _ _))
      | succ i =>
        have := argv_rd l vr (pre ++ [id]) h' i (by simpa using hi)
        simpa [nth] using this
    · have hp' : ∀ i o,d ≠ .ptr i o := fun i o e => hp ⟨i,o,e⟩
      have e1 : argv (d :: l) pre.length = d.pure :: argv l pre.length := by cases d <;> first | rfl | exact absurd rfl (hp' _ _)
      have e2 : ptrs (d :: l) = ptrs l := by cases d <;> first | rfl | exact absurd rfl (hp' _ _)
      rw [e1,e2]
      cases i with
      | zero =>
        simp only [nth,List.getD_cons_zero]
        exact h0.pured rfl hp'
      | succ i =>
        have := argv_rd l vr pre h' i (by simpa using hi)
        simpa [nth] using this

theorem pure_names' (d : D) (hp : ∀ i o,d ≠ .ptr i o) : d.pure.names lo hi = false := by
  cases d with
  | agg l => exact pures_names l
  | ptr i o => exact absurd rfl (hp i o)
  | _ => rfl

theorem argv_names (h : Nat) : ∀ (l : List D) (j0 i : Nat),i < l.length → (nth (argv l j0) i .dead).names (j0 + (ptrs l).length) h = false
  | [],_,i,hi => by simp at hi
  | d :: l,j0,i,hi => by
    by_cases hp : ∃ id off,d = .ptr id off
    · obtain ⟨id,off,rfl⟩ := hp
      simp only [argv,ptrs,List.length_cons]
      cases i with
      | zero => exact in_range_of (by omega)
      | succ i =>
        have := argv_names h l (j0 + 1) i (by simpa using hi)
        rw [show j0 + ((ptrs l).length + 1) = j0 + 1 + (ptrs l).length from by omega]
        exact this
    · have hp' : ∀ i o,d ≠ .ptr i o := fun i o e => hp ⟨i,o,e⟩
      have e1 : argv (d :: l) j0 = d.pure :: argv l j0 := by cases d <;> first | rfl | exact absurd rfl (hp' _ _)
      have e2 : ptrs (d :: l) = ptrs l := by cases d <;> first | rfl | exact absurd rfl (hp' _ _)
      rw [e1,e2]
      cases i with
      | zero => exact pure_names' d hp'
      | succ i => exact argv_names h l j0 i (by simpa using hi)

theorem call_pre (r : Rel F B np w0 ext σ0 G s a w) {vs : List D} {vals : Array Value} (hsz : vals.size = vs.length) (hv : ∀ i,i < vs.length → Rd F G s.tk (vals.getD i undef) (nth vs i .dead)) {bs : List (List D)} (hb : blocksOf s.hp (ptrs vs) = some bs)
    (hd : distinct (ptrs vs) = true) : CPre F G.σ w ((ptrs vs).map G.β) vals (argv vs 0) bs := by
  have m := r.mem
  obtain ⟨hl,hbs⟩ := blocks_some hb
  refine ⟨m.stab,by rw [length_argv]; exact hsz,fun j hj => ?_,fun j hj h => ?_,by simpa using hl,?_,fun k hk => ?_⟩
  · rw [length_argv] at hj
    have := argv_rd (F := F) (G := G) (tk := s.tk) vs vals.toList [] (fun i hi => by rw [← getD_toList]; exact hv i hi) j hj
    simp only [List.nil_append,List.length_nil] at this
    rw [getD_toList]
    exact this
  · rw [length_argv] at hj
    have := argv_names h vs 0 j hj
    rw [Nat.zero_add,hl] at this
    exact this
  · have hnd := distinct_nodup hd
    refine List.pairwise_map.2 (hnd.imp_of_mem ?_)
    intro x y hx hy hne hxy
    obtain ⟨k,hk,rfl⟩ := List.mem_iff_getElem.1 hx
    obtain ⟨k',hk',rfl⟩ := List.mem_iff_getElem.1 hy
    obtain ⟨cs,h1,_⟩ := hbs k hk
    obtain ⟨cs',h2,_⟩ := hbs k' hk'
    have e1 : (ptrs vs).getD k 0 = (ptrs vs)[k] := by simp [hk]
    have e2 : (ptrs vs).getD k' 0 = (ptrs vs)[k'] := by simp [hk']
    rw [e1] at h1
    rw [e2] at h2
    have := m.own1 _ (.inl _) (.inl _) ⟨cs,h1,rfl⟩ ⟨cs',h2,hxy.symm⟩
    simp only [Sum.inl.injEq] at this
    exact hne this
  · rw [← hl] at hk
    obtain ⟨cs,h1,h2,h3⟩ := hbs k hk
    obtain ⟨o1,h4,hh1,h7⟩ := m.vars _ cs h1
    obtain ⟨c,e,rfl,h5,h6⟩ := hh1.cells (solid_of_pures h3)
    rw [h2]
    have e1 : ((ptrs vs).map G.β).getD k 0 = G.β ((ptrs vs).getD k 0) := by simp [hk]
    rw [e1]
    refine ⟨h3,c,e,h4,by rw [length_pures]; exact h5,fun j hj => ?_,h7⟩
    rw [length_pures] at hj
    rw [nth_pures]
    exact ⟨(h6 j hj).pure1,(pure1_pure1 _).symm⟩

theorem mem_zip : ∀ {ids : List Nat} {bs : List (List D)} {x : Nat × Bool × List D},x ∈ zipBlocks ids bs → x.1 ∈ ids ∧ x.2.2 ∈ bs
  | [],_,_,h => by simp [zipBlocks] at h
  | _ :: _,[],_,h => by simp [zipBlocks] at h
  | i :: ids,b :: bs,x,h => by
    simp only [zipBlocks,List.mem_cons] at h
    rcases h with rfl | h
    · exact ⟨by simp,by simp⟩
    · obtain ⟨h1,h2⟩ := mem_zip h
      exact ⟨List.mem_cons_of_mem _ h1,List.mem_cons_of_mem _ h2⟩

theorem mem_puress {bs : List (List D)} {b : List D} (h : b ∈ puress bs) : ∃ c,b = pures c := by
  induction bs with
  | nil => simp [puress] at h
  | cons c bs ih =>
    simp only [puress,List.mem_cons] at h
    rcases h with h | h
    · exact ⟨c,h⟩
    · exact ih h

theorem newToks_lt : ∀ (l : List D) (i : Nat) (x : Nat × Nat × Nat),x ∈ newToks l i → x.1 < i + l.length
  | [],_,_,h => by simp [newToks] at h
  | d :: l,i,x,h => by
    simp only [List.length_cons]
    have other : x ∈ newToks l (i + 1) → x.1 < i + (l.length + 1) := fun h => by have := newToks_lt l (i + 1) x h; omega
    cases d with
    | slice t z n g =>
      cases t with
      | own j =>
        simp only [newToks,List.mem_cons] at h
        rcases h with rfl | h
        · simp only; omega
        · exact other h
      | _ => exact other h
    | _ => exact other h

theorem res_names (d : D) {i : Nat} (h : ¬ (lo ≤ i ∧ i < hi)) : (d.res.own i).names lo hi = false ∧ (d.res.own i).names1 lo hi = false := by
  cases d with
  | slice t z n g => cases t <;> first | exact ⟨in_range_of h,in_range_of h⟩ | exact ⟨rfl,rfl⟩
  | agg c => exact ⟨pures_names c,rfl⟩
  | _ => exact ⟨rfl,rfl⟩

theorem call_clean (h : Clean lo hi s) {id : Nat} {ids : List Nat} {bs bs' : List (List D)} (hb : blocksOf s.hp ids = some bs) {rs : List D} (h4 : rs.length ≤ 4) (hid : id + 4 ≤ lo ∨ hi ≤ id) (dst : Option Nat) :
    Clean lo hi (s.next dst (packRes (retag (pureRes rs) id)) ⟨zipBlocks ids (puress bs'),newToks (pureRes rs) id⟩) := by
  have hnth : ∀ j,j < rs.length → (nth (retag (pureRes rs) id) j .dead).names lo hi = false ∧ (nth (retag (pureRes rs) id) j .dead).names1 lo hi = false := fun j hj => by
    rw [nth_retag,nth_pureRes]
    exact res_names _ (by omega)
  have hlen : (retag (pureRes rs) id).length = rs.length := by rw [length_retag,length_pureRes]
  refine h.after ?_ (fun x hx => ?_) (fun x hx => ?_) dst
  · generalize retag (pureRes rs) id = l at hnth hlen
    match l,hlen with
    | [],_ => rfl
    | [d],hl => exact (hnth 0 (by rw [← hl]; simp)).1
    | d :: d' :: l,hl =>
      show names lo hi (d :: d' :: l) = false
      exact names_of_nth fun j hj => (hnth j (by rw [← hl]; exact hj)).2
  · obtain ⟨h1,h2⟩ := mem_zip hx
    obtain ⟨c,h3⟩ := mem_puress h2
    rw [h3]
    obtain ⟨_,hbs⟩ := blocks_some hb
    obtain ⟨k,hk,h5⟩ := List.mem_iff_getElem.1 h1
    obtain ⟨cs,h6,_⟩ := hbs k hk
    have : ids.getD k 0 = x.1 := by simp [hk,h5]
    rw [this] at h6
    exact ⟨(h.hp _ _ _ h6).1,pures_names c⟩
  · have h1 := newToks_ge _ _ _ hx
    have h2 := newToks_lt _ _ _ hx
    rw [length_pureRes] at h2
    omega

theorem call_clean_new (h : Clean lo hi s) {id : Nat} {ids : List Nat} {bs bs' : List (List D)} (hb : blocksOf s.hp ids = some bs) {l : List D} (hid : id + 4 ≤ lo ∨ hi ≤ id) (dst : Option Nat) :
    Clean lo hi (s.next dst (.ptr id 0) ⟨zipBlocks ids (puress bs') ++ [(id,false,pures l)],[]⟩) := by
  refine h.after (v := .ptr id 0) (show (Nat.ble lo id && Nat.blt id hi) = false from in_range_of (by omega)) (fun x hx => ?_) (fun x hx => by simp at hx) dst
  rcases List.mem_append.1 hx with hx | hx
  · obtain ⟨h1,h2⟩ := mem_zip hx
    obtain ⟨c,h3⟩ := mem_puress h2
    rw [h3]
    obtain ⟨_,hbs⟩ := blocks_some hb
    obtain ⟨k,hk,h5⟩ := List.mem_iff_getElem.1 h1
    obtain ⟨cs,h6,_⟩ := hbs k hk
    have : ids.getD k 0 = x.1 := by simp [hk,h5]
    rw [this] at h6
    exact ⟨(h.hp _ _ _ h6).1,pures_names c⟩
  · simp only [List.mem_singleton] at hx
    subst hx
    exact ⟨by simp only; omega,pures_names l⟩

theorem callOut_cases {id n : Nat} {ids : List Nat} {rs : List D} {bs' : List (List D)} {v : D} {u : Upd} (h : (callOut id ids n rs bs').holds v u) : bs'.length = n ∧ solids (puress bs') = true ∧
    ((rs.length ≤ 4 ∧ v = packRes (retag (pureRes rs) id) ∧ u = ⟨zipBlocks ids (puress bs'),newToks (pureRes rs) id⟩) ∨
     ∃ l,rs = [.newp l] ∧ solid (pures l) = true ∧ v = .ptr id 0 ∧ u = ⟨zipBlocks ids (puress bs') ++ [(id,false,pures l)],[]⟩) := by
  unfold callOut at h
  split at h
  · rename_i l
    obtain ⟨hb,rfl,rfl⟩ := holds_chk h
    simp only [Bool.and_eq_true] at hb
    exact ⟨Nat.eq_of_beq_eq_true hb.1.1,hb.1.2,.inr ⟨l,rfl,hb.2,rfl,rfl⟩⟩
  · obtain ⟨hb,rfl,rfl⟩ := holds_chk h
    simp only [Bool.and_eq_true] at hb
    exact ⟨Nat.eq_of_beq_eq_true hb.1.1.2,hb.2,.inl ⟨Nat.le_of_ble_eq_true hb.1.2,rfl,rfl⟩⟩

abbrev Behind (F : Nat → FuncId) (B np : Nat) (w0 : World) (ext : List Nat) (σ0 : Sg) (s : St) (a : Act) (dst : Option Nat) (id n : Nat) (k : D → Upd → Prop) (next : Act → World → Prop) : Prop :=
  ∀ v u v' G' w',k v u → Rel F B np w0 ext σ0 G' (s.next dst v u) (a.put dst v') w' → (∀ lo hi,Clean lo hi s → (id + n ≤ lo ∨ hi ≤ id) → Clean lo hi (s.next dst v u)) → next (a.put dst v') w'

theorem call_wp {C : Contract} {f : FuncId} (hC : COk P F f C) (r : Rel F B np w0 ext σ0 G s a w) {vs : List D} {vals : Array Value} (hsz : vals.size = vs.length) (hv : ∀ i,i < vs.length → Rd F G s.tk (vals.getD i undef) (nth vs i .dead))
    {id : Nat} (hnp : np ≤ id) (hcl : Clean id (id + 4) s) {k : D → Upd → Prop} (h : callK C id vs s.hp k) {o : Oper} (hop : (execOp a.eval o).run P w = (callFunc f vals).run P w) {next : Act → World → Prop} {Q : Exit → Act → World → Prop}
    (hn : Behind F B np w0 ext σ0 s a o.dst id 4 k next) : o.wp P a w next Q := by
  unfold Oper.wp
  rw [hop]
  unfold callK at h
  cases hb : blocksOf s.hp (ptrs vs) with
  | none => rw [hb] at h; exact h.elim
  | some bs =>
    rw [hb] at h
    simp only at h
    cases hd : distinct (ptrs vs) with
    | false => rw [hd] at h; exact h.elim
    | true =>
      rw [hd] at h
      have key : ∀ (w' : World) (rv : Array Value) (rs : List D) (bs' : List (List D)) (σ' : Sg),(callOut id (ptrs vs) bs.length rs bs').then k →
          CPost G.σ w ((ptrs vs).map G.β) w' σ' rs bs' rv → next (a.put o.dst (packV rv)) w' := by
        intro w' rv rs bs' σ' hK post
        obtain ⟨v,u,hh,hK⟩ := then_holds hK
        obtain ⟨hl,hs,⟨h4,rfl,rfl⟩ | ⟨l,rfl,hls,rfl,rfl⟩⟩ := callOut_cases hh
        · obtain ⟨G',r'⟩ := call_after r hnp hcl hb hd post hl h4 hs o.dst
          exact hn _ _ _ G' w' hK r' fun lo hi hc hid => call_clean hc hb h4 hid o.dst
        · obtain ⟨G',r'⟩ := call_after_new r hnp hcl hb hd post hl hs hls o.dst
          exact hn _ _ _ G' w' hK r' fun lo hi hc hid => call_clean_new hc hb hid o.dst
      rcases hC with hC | hC
      · rw [hC.enter,Oper.upon_enter]
        refine (hC.calls _ w _ vals _ bs _ (call_pre r hsz hv hb hd) h).mono fun e w' hh => ?_
        obtain ⟨rv,rs,bs',σ',rfl,hK,post⟩ := hh
        exact key w' rv rs bs' σ' hK post
      · obtain ⟨w',rv,rs,bs',σ',hr,hK,post⟩ := hC.calls _ w _ vals _ bs _ (call_pre r hsz hv hb hd) h
        rw [hr,Oper.upon_value]
        exact key w' rv rs bs' σ' hK post

theorem Re.rd {v : Value} {d : D} (h : Re G.σ v d) : Rd F G tk v d := by
  cases h with
  | pure h1 h2 => rw [h2]; exact .any (.cell (.pure (h2 ▸ h1) (tagR_pure1 _ _)))
  | eptr b o l h1 => exact .any (.cell (.eptr b o l h1))

theorem Rd.fn_inv {v : Value} {f : Nat} {l : List D} (h : Rd F G tk v (.fn f l)) : ∃ cap : Array Value,v = .func (.func (F f)) #[] cap ∧ cap.size = l.length ∧ ∀ j,j < l.length → Re G.σ (cap.getD j undef) (nth l j .dead) := by
  cases h with | any h => cases h with | cell h => cases h with | pure h _ => cases h | fn _ cap _ h1 h2 => exact ⟨cap,rfl,h1,h2⟩

theorem step_call (o : AOp) (id : Nat) (args : List D) (k : D → Upd → Prop) : step E o id hp tk args k = match o with
  | .call p f => (match ag E f with
    | some C => bif p then callK C id args hp k else Br (noPtr args) (callK C id args hp k) False
    | none => False)
  | .callv p => (match args with
    | .fn f cap :: r => (match ag E f with
      | some C => bif p then callK C id (r ++ cap) hp k else Br (noPtr (r ++ cap)) (callK C id (r ++ cap) hp k) False
      | none => False)
    | _ => False)
  | o => (outOf o id hp tk args).then k := by
  cases o <;> rfl

theorem step_wp (hE : EnvOk P F E) (hft : ∀ f j,ag ft f = some j → F j = f) (r : Rel F B np w0 ext σ0 G s a w) {o : Oper} {ao : AOp} {xs : List AX} (ht : trOp P ft np o = some (ao,xs)) (hok : opOk ao = true) (hax : xs.all axOk = true) {id : Nat} (hnp : np ≤ id)
    (hcl : Clean id (id + idsOf ao) s) {k : D → Upd → Prop} (h : step E ao id s.hp s.tk (evs s.fr xs) k) {next : Act → World → Prop} {Q : Exit → Act → World → Prop} (hn : Behind F B np w0 ext σ0 s a o.dst id (idsOf ao) k next) : o.wp P a w next Q := by
  have hnoc : isCall ao = false → o.wp P a w next Q := by
    intro hnc
    have h' : (outOf ao id s.hp s.tk (evs s.fr xs)).then k := by
      rw [step_call] at h
      cases ao <;> first | exact h | cases hnc
    obtain ⟨v,u,hh,hk⟩ := then_holds h'
    obtain ⟨w',r',v',G',h1,h2,h3⟩ := op_rel hft r ht hnc hnp hcl hh o.dst
    have := hn v u v' G' w' hk h3 fun lo hi hc hid => op_clean r hc hok hax hid hh o.dst
    unfold Oper.wp
    rw [h1]
    rcases h2 with rfl | ⟨rfl,rfl⟩
    · exact this
    · exact this
  rcases trOp_cases ht with ⟨c,hc,hcall⟩ | ⟨_,hnc⟩ | ⟨rfl,_⟩
  · obtain ⟨callee,args,ts⟩ := c
    unfold trCall at hcall
    split at hcall
    · rename_i f hf
      simp only at hf
      subst hf
      split at hcall
      · rename_i j as hj has
        cases hcall
        obtain ⟨h1,h2,h3⟩ := trArgs_rd hft r has
        have := hft f j hj
        subst this
        have hrun : (execOp a.eval o).run P w = (callFunc (F j) (args.map a.eval)).run P w := by
          simp [execOp,hc,resolve,Act.eval,Deferred.ofValue,invoke]
        have hsz : (args.map a.eval).size = (evs s.fr xs).length := by rw [h2,← h1]; simp
        have hv : ∀ i,i < (evs s.fr xs).length → Rd F G s.tk ((args.map a.eval).getD i undef) (nth (evs s.fr xs) i .dead) := fun i hi => by
          have := h3 i (by omega)
          rw [getD_toList,Array.toList_map]
          exact this
        rw [step_call] at h
        simp only at h
        cases hE' : ag E j with
        | none => rw [hE'] at h; exact h.elim
        | some C =>
          rw [hE'] at h
          simp only at h
          have hk : callK C id (evs s.fr xs) s.hp k := by
            cases hp : hasPtr P ts.toList with
            | true => rw [hp] at h; exact h
            | false =>
              rw [hp] at h
              simp only [cond_false] at h
              cases hnp : noPtr (evs s.fr xs) with
              | true => rw [hnp] at h; exact h
              | false => rw [hnp] at h; exact h.elim
          exact call_wp (hE j C hE') r hsz hv hnp hcl hk hrun hn
      · cases hcall
    · rename_i t ht'
      simp only at ht'
      subst ht'
      rw [Option.map_eq_some_iff] at hcall
      obtain ⟨as,has,hcall⟩ := hcall
      cases hcall
      obtain ⟨h1,h2,h3⟩ := evs_rd hft r has
      rw [step_call] at h
      simp only [evs] at h
      split at h
      · rename_i f cap rest hargs
        obtain ⟨hf,hr⟩ := List.cons.inj hargs
        subst hr
        have hfn := ev_rd (a := a) (ft := ft) hft r (x := .tmp t) (ax := .t t) rfl
        rw [hf] at hfn
        obtain ⟨cv,e1,e2,e3⟩ := hfn.fn_inv
        have hrun : (execOp a.eval o).run P w = (callFunc (F f) (args.map a.eval ++ cv)).run P w := by
          simp [execOp,hc,resolve,e1,Deferred.ofValue,invoke]
        have hsz0 : (args.map a.eval).size = (evs s.fr as).length := by rw [h2,← h1]; simp
        have hsz : (args.map a.eval ++ cv).size = (evs s.fr as ++ cap).length := by
          rw [Array.size_append,List.length_append,hsz0,e2]
        have hv : ∀ i,i < (evs s.fr as ++ cap).length → Rd F G s.tk ((args.map a.eval ++ cv).getD i undef) (nth (evs s.fr as ++ cap) i .dead) := fun i hi => by
          rw [nth_append]
          rw [List.length_append] at hi
          split
          · rename_i hlt
            have := h3 i (by omega)
            have e4 : (args.map a.eval ++ cv).getD i undef = (args.map a.eval).getD i undef := by
              simp only [Array.getD_eq_getD_getElem?]
              rw [Array.getElem?_append_left (by omega)]
            rw [e4,getD_toList,Array.toList_map]
            exact this
          · rename_i hge
            have e4 : (args.map a.eval ++ cv).getD i undef = cv.getD (i - (evs s.fr as).length) undef := by
              simp only [Array.getD_eq_getD_getElem?]
              rw [Array.getElem?_append_right (by omega),hsz0]
            rw [e4]
            exact (e3 _ (by omega)).rd
        cases hE' : ag E f with
        | none => rw [hE'] at h; exact h.elim
        | some C =>
          rw [hE'] at h
          simp only at h
          have hk : callK C id (evs s.fr as ++ cap) s.hp k := by
            cases hp : hasPtr P ts.toList with
            | true => rw [hp] at h; exact h
            | false =>
              rw [hp] at h
              simp only [cond_false] at h
              cases hnp : noPtr (evs s.fr as ++ cap) with
              | true => rw [hnp] at h; exact h
              | false => rw [hnp] at h; exact h.elim
          exact call_wp (hE f C hE') r hsz hv hnp hcl hk hrun hn
      · exact h.elim
    · rename_i b hb
      refine hnoc ?_
      unfold trBuiltin at hcall
      split at hcall
      · unfold trLen at hcall
        split at hcall <;> first | (cases hcall; rfl) | cases hcall
      · unfold trAppend at hcall
        split at hcall
        · split at hcall
          · split at hcall
            · cases hcall; rfl
            · cases hcall
          · cases hcall
        · cases hcall
      · rw [Option.map_eq_some_iff] at hcall
        obtain ⟨_,_,hcall⟩ := hcall
        cases hcall
        rfl
      · rw [Option.map_eq_some_iff] at hcall
        obtain ⟨_,_,hcall⟩ := hcall
        cases hcall
        rfl
      · cases hcall
    · cases hcall
  · exact hnoc hnc
  · exact hnoc rfl

end
end Go.Abs

/- What holds of a state without any memory: numbers,and that cells are cells. -/
namespace Go.Abs
open Go

def FlatS : D → Prop
  | .agg l => ∀ e ∈ l,Cell e
  | .tup l => ∀ e ∈ l,match e with
    | .agg c => ∀ x ∈ c,Cell x ∧ x = x.pure1
    | .tup _ => False
    | _ => True
  | _ => True

structure Tidy (lo hi : Nat) (s : St) : Prop where
  fr : ∀ d ∈ s.fr,d.names lo hi = false ∧ FlatS d
  hp : ∀ i f cs,s.hp i = some (f,cs) → ¬ (lo ≤ i ∧ i < hi) ∧ names lo hi cs = false ∧ ∀ e ∈ cs,Cell e
  tk : ∀ i e,s.tk i = some e → ¬ (lo ≤ i ∧ i < hi)

section
variable {P : Program} {F : Nat → FuncId} {B np : Nat} {w0 w w' : World} {ext : List Nat} {σ0 : Sg} {G G' : Gh} {s : St} {a : Act} {ft : FT} {hp : Nat → Option (Bool × List D)} {tk : Nat → Option (Nat × Nat)} {lo hi id : Nat} {E : Env}

theorem FlatS.flatD {d : D} (h : FlatS d) : FlatD lo hi d := by
  cases d with
  | agg l => exact h
  | tup l =>
    intro e he
    have := h e he
    cases e with
    | agg c => exact names_iff.2 fun x hx => by rw [(this x hx).2]; exact pure1_names _
    | tup c => exact this
    | _ => trivial
  | _ => trivial

theorem Cell.flat {d : D} (h : Cell d) : FlatS d := by cases d <;> first | trivial | exact h.elim

theorem Rd.flatS {v : Value} {d : D} (h : Rd F G tk v d) : FlatS d := by
  cases h with
  | any h =>
    cases h with
    | cell h => exact h.cell.flat
    | agg cs l h1 h2 =>
      intro e he
      obtain ⟨j,hj,rfl⟩ := List.mem_iff_getElem.1 he
      have := (h2 j hj).cell
      rw [nth_lt l _ hj] at this
      exact this
  | tup vs l h1 h2 =>
    intro e he
    obtain ⟨j,hj,rfl⟩ := List.mem_iff_getElem.1 he
    have := h2 j hj
    rw [nth_lt l _ hj] at this
    generalize l[j] = e at this
    generalize vs.getD j undef = v at this
    cases this with
    | cell h =>
      have := h.cell
      cases e <;> first | trivial | exact this.elim
    | agg cs c h3 h4 =>
      intro x hx
      obtain ⟨q,hq,rfl⟩ := List.mem_iff_getElem.1 hx
      have := h4 q hq
      rw [nth_lt c _ hq] at this
      exact ⟨this.1.cell,this.2⟩
  | mref id => trivial

theorem Rel.tidy (r : Rel F B np w0 ext σ0 G s a w) (h : Clean lo hi s) : Tidy lo hi s := by
  refine ⟨fun d hd => ?_,hp_ok r h,h.tk⟩
  obtain ⟨j,hj,rfl⟩ := List.mem_iff_getElem.1 hd
  have h1 := h.fr j hj
  have h2 := (r.slots j hj).flatS
  rw [nth_lt s.fr _ hj] at h1 h2
  exact ⟨h1,h2⟩

theorem Tidy.clean (h : Tidy lo hi s) : Clean lo hi s :=
  ⟨fun i hi' => by rw [nth_lt s.fr _ hi']; exact (h.fr _ (List.getElem_mem hi')).1,fun i f cs hx => ⟨(h.hp i f cs hx).1,(h.hp i f cs hx).2.1⟩,h.tk⟩

theorem mem_setDst {dst : Option Nat} {v : D} {fr : List D} {d : D} (h : d ∈ setDst dst v fr) : d = v ∨ d ∈ fr := by
  cases dst with
  | none => exact .inr h
  | some i => exact mem_upd h

theorem Tidy.after (h : Tidy lo hi s) {v : D} {u : Upd} (hv : v.names lo hi = false ∧ FlatS v) (hh : ∀ x ∈ u.h,¬ (lo ≤ x.1 ∧ x.1 < hi) ∧ names lo hi x.2.2 = false ∧ ∀ e ∈ x.2.2,Cell e) (ht : ∀ x ∈ u.t,¬ (lo ≤ x.1 ∧ x.1 < hi)) (dst : Option Nat) :
    Tidy lo hi (s.next dst v u) := by
  refine ⟨fun d hd => ?_,fun i f cs hx => ?_,fun i e hx => ?_⟩
  · rcases mem_setDst hd with rfl | hd
    · exact hv
    · exact h.fr d hd
  · rcases updH_mem hx with h1 | h1
    · exact h.hp i f cs h1
    · exact hh _ h1
  · rcases updT_mem hx with h1 | h1
    · exact h.tk i e h1
    · exact ht _ h1

theorem evs_tidy (h : Tidy lo hi s) {xs : List AX} (hx : xs.all axOk = true) : ∀ d ∈ evs s.fr xs,d.names lo hi = false ∧ FlatS d := by
  intro d hd
  obtain ⟨x,hx',rfl⟩ := mem_evs hd
  have hx := List.all_eq_true.1 hx x hx'
  cases x with
  | t i =>
    simp only [AX.ev]
    rcases mem_nth (l := s.fr) (j := i) with h1 | h1
    · exact h.fr _ h1
    · rw [h1]; exact ⟨rfl,trivial⟩
  | c d =>
    refine ⟨(constOk_ok (lo := lo) (hi := hi) hx).1,?_⟩
    have h1 := (constOk_ok (lo := lo) (hi := hi) hx).2
    cases d with
    | agg l => exact h1
    | tup l => cases hx
    | _ => trivial

theorem pures_cell (l : List D) : ∀ e ∈ pures l,Cell e := by
  intro e he
  obtain ⟨x,_,rfl⟩ := mem_pures he
  exact cell_pure1 x

theorem ro1_cell {d : D} (h : Cell d) : Cell d.ro1 := by
  cases d with
  | slice t z n g => cases t <;> trivial
  | _ => first | trivial | exact h.elim

theorem ros_cell {l : List D} (h : ∀ e ∈ l,Cell e) : ∀ e ∈ ros l,Cell e := by
  intro e he
  obtain ⟨x,hx,rfl⟩ := mem_ros he
  exact ro1_cell (h x hx)

theorem loadFrom_flat {g : Bool} {n : Nat} {l : List D} {v : D} {u : Upd} (h : (loadFrom g n l).holds v u) (h2 : ∀ e ∈ l,Cell e) : FlatS v := by
  unfold loadFrom at h
  cases hb : Nat.ble n l.length with
  | false => rw [hb] at h; exact (holds_bad h).elim
  | true =>
    rw [hb] at h
    obtain ⟨rfl,rfl⟩ := holds_val h
    cases g with
    | true => exact fun e he => h2 e (List.mem_of_mem_take he)
    | false =>
      simp only [mkv,cond_false]
      rcases mem_nth (l := l.take n) (j := 0) with h4 | h4
      · exact (h2 _ (List.mem_of_mem_take h4)).flat
      · rw [h4]; trivial

theorem fill_cell : ∀ {qs : List (Nat × Nat)} {xs cells l : List D},fill cells qs xs = some l → (∀ e ∈ cells,Cell e) → ∀ e ∈ l,Cell e
  | [],[],cells,l,h,hc => by cases h; exact hc
  | [],_ :: _,_,_,h,_ => by simp [fill] at h
  | _ :: _,[],_,_,h,_ => by simp [fill] at h
  | (off,size) :: qs,x :: xs,cells,l,h,hc => by
    simp only [fill] at h
    cases hb : (solid x.cells && Nat.beq x.cells.length size && Nat.ble (off + size) cells.length) with
    | false => rw [hb] at h; cases h
    | true =>
      rw [hb] at h
      simp only [Bool.and_eq_true] at hb
      refine fill_cell h fun e he => ?_
      rcases mem_splice he with he | he
      · exact hc e he
      · exact solid_cell hb.1.1 e he

theorem flat1_cell {d : D} (h : flat1 d = true) : Cell d := by cases d <;> first | trivial | cases h

theorem freeze_cell : ∀ (l : List D) (ds : List D) (u : List (Nat × Bool × List D)),freeze np hp l = some (ds,u) → ∀ x ∈ u,∀ e ∈ x.2.2,Cell e
  | [],ds,u,h,x,hx => by simp only [freeze,Option.some.injEq,Prod.mk.injEq] at h; rw [← h.2] at hx; simp at hx
  | d :: l,ds,u,h,x,hx => by
    have other : (match freeze np hp l with | some (ds,u) => bif solid [d] then some (d.pure :: ds,u) else none | none => none) = some (ds,u) → ∀ e ∈ x.2.2,Cell e := by
      intro h
      cases hf : freeze np hp l with
      | none => simp [hf] at h
      | some p =>
        obtain ⟨ds',u'⟩ := p
        simp only [hf] at h
        cases hs : solid [d] with
        | false => rw [hs] at h; cases h
        | true =>
          rw [hs] at h
          cases h
          exact freeze_cell l _ _ hf x hx
    cases d with
    | ptr i off =>
      simp only [freeze] at h
      cases hi' : hp i with
      | none => simp [hi'] at h
      | some e =>
        obtain ⟨f,cs⟩ := e
        cases hf : freeze np hp l with
        | none => simp [hi',hf] at h
        | some p =>
          obtain ⟨ds',u'⟩ := p
          simp only [hi',hf] at h
          cases hb : ((f || solid cs) && Nat.ble np i) with
          | false => rw [hb] at h; cases h
          | true =>
            rw [hb] at h
            cases h
            simp only [List.mem_cons] at hx
            rcases hx with rfl | hx
            · exact pures_cell _
            · exact freeze_cell l _ _ hf x hx
    | fn f c => simp [freeze] at h
    | _ => exact other h

theorem bin_flat {op : BinOp} {x y v : D} {u : Upd} (h : (bin op x y).holds v u) : Cell v := by
  unfold bin at h
  split at h
  · rename_i k a k' b
    cases hs : isShift op with
    | true =>
      rw [hs] at h
      simp only [cond_true] at h
      unfold shiftInt at h
      split at h
      · obtain ⟨_,rfl,rfl⟩ := holds_chk h; trivial
      · obtain ⟨_,rfl,rfl⟩ := holds_chk h; trivial
      · exact (holds_bad h).elim
    | false =>
      rw [hs] at h
      simp only [cond_false] at h
      cases hk : kindEq k k' with
      | false => rw [hk] at h; exact (holds_bad h).elim
      | true =>
        rw [hk] at h
        simp only [cond_true] at h
        unfold binInt at h
        split at h
        all_goals first
          | exact (holds_bad h).elim
          | (obtain ⟨rfl,rfl⟩ := holds_val h; trivial)
          | (obtain ⟨_,rfl,rfl⟩ := holds_chk h; trivial)
  · unfold binStr at h
    split at h
    all_goals first
      | exact (holds_bad h).elim
      | (obtain ⟨rfl,rfl⟩ := holds_val h; trivial)
      | (obtain ⟨_,rfl,rfl⟩ := holds_chk h; trivial)
  · exact (holds_bad h).elim

theorem append_flat {sz bytes : Nat} {t : Tag} {z n : Nat} {g : Nat → List D} {m : Nat} {k : Nat → List D} {v : D} {u : Upd} (h : (appendOut id sz bytes tk t z n g m k).holds v u) : Cell v ∧ u.h = [] := by
  unfold appendOut at h
  cases hb : Nat.beq z sz with
  | false => rw [hb] at h; exact (holds_bad h).elim
  | true =>
    rw [hb] at h
    simp only [Bool.not_true,cond_false] at h
    split at h
    · split at h
      · rename_i z' n' hi'
        cases hb2 : Nat.beq z' sz with
        | false => rw [hb2] at h; exact (holds_bad h).elim
        | true =>
          rw [hb2] at h
          obtain ⟨_,rfl,rfl⟩ := holds_ask h
          exact ⟨trivial,rfl⟩
      · exact (holds_bad h).elim
    · obtain ⟨_,rfl,rfl⟩ := holds_ask h
      exact ⟨trivial,rfl⟩
    · exact (holds_bad h).elim

theorem out_flat {o : AOp} {args : List D} {v : D} {u : Upd} (h : (outOf o id hp tk args).holds v u) (ho : opOk o = true) (ha : ∀ d ∈ args,FlatS d) (hh : ∀ i f cs,hp i = some (f,cs) → ∀ e ∈ cs,Cell e) : FlatS v ∧ ∀ x ∈ u.h,∀ e ∈ x.2.2,Cell e := by
  have none' : ∀ x ∈ Upd.none.h,∀ e ∈ x.2.2,Cell e := fun x hx => by simp [Upd.none] at hx
  unfold outOf at h
  split at h
  · obtain ⟨rfl,rfl⟩ := holds_val h; exact ⟨ha _ (by simp),none'⟩
  · rename_i c x y
    obtain ⟨rfl,rfl⟩ := holds_val h
    refine ⟨?_,none'⟩
    cases c
    · exact ha y (by simp)
    · exact ha x (by simp)
  · rename_i cells
    cases hs : solid cells with
    | false => rw [hs] at h; exact (holds_bad h).elim
    | true =>
      rw [hs] at h
      obtain ⟨rfl,rfl⟩ := holds_ok h
      refine ⟨trivial,fun x hx => ?_⟩
      simp only [List.mem_singleton] at hx
      subst hx
      intro e he
      obtain ⟨j,hj,rfl⟩ := List.mem_iff_getElem.1 he
      have h1 := nth_retag cells (id + 1) j
      rw [nth_lt _ _ hj] at h1
      rw [h1]
      rw [length_retag] at hj
      have h2 := solid_cell hs _ (List.getElem_mem hj)
      rw [nth_lt cells _ hj]
      generalize cells[j] = d at h2
      cases d with
      | slice t z n g => cases t <;> trivial
      | _ => first | trivial | exact h2.elim
  · rename_i x
    cases hs : solid x.cells with
    | false => rw [hs] at h; exact (holds_bad h).elim
    | true =>
      rw [hs] at h
      obtain ⟨rfl,rfl⟩ := holds_ok h
      refine ⟨trivial,fun y hy => ?_⟩
      simp only [List.mem_singleton] at hy
      subst hy
      exact solid_cell hs
  · split at h
    · rename_i f cs hi'
      replace h := (holds_bif h).2
      have h1 := loadFrom_flat h (fun e he => hh _ _ _ hi' e (List.mem_of_mem_drop he))
      obtain ⟨_,rfl⟩ := loadFrom_clean (lo := 0) (hi := 0) h (names_iff.2 fun d _ => names1_none d) (fun e he => hh _ _ _ hi' e (List.mem_of_mem_drop he))
      exact ⟨h1,none'⟩
    · exact (holds_bad h).elim
  · have h1 := loadFrom_flat h (pures_cell _)
    obtain ⟨_,rfl⟩ := loadFrom_clean (lo := 0) (hi := 0) h (names_iff.2 fun d _ => names1_none d) (pures_cell _)
    exact ⟨h1,none'⟩
  · rename_i n i off x
    split at h
    · rename_i cs hi'
      replace h := (holds_bnif h).2
      cases hb : (solid x.cells && Nat.beq x.cells.length n && Nat.ble (off + n) cs.length) with
      | false => rw [hb] at h; exact (holds_bad h).elim
      | true =>
        rw [hb] at h
        obtain ⟨rfl,rfl⟩ := holds_ok h
        simp only [Bool.and_eq_true] at hb
        refine ⟨trivial,fun y hy => ?_⟩
        simp only [List.mem_singleton] at hy
        subst hy
        intro e he
        rcases mem_splice he with he | he
        · exact hh _ _ _ hi' e he
        · exact solid_cell hb.1.1 e he
    · exact (holds_bad h).elim
  · obtain ⟨rfl,rfl⟩ := holds_val h; exact ⟨trivial,none'⟩
  · obtain ⟨rfl,rfl⟩ := holds_val h; exact ⟨trivial,none'⟩
  · rename_i g off n l
    have h0 : ∀ e ∈ l.drop off,Cell e := fun e he => ha (.agg l) (by simp) e (List.mem_of_mem_drop he)
    have h1 := loadFrom_flat h h0
    obtain ⟨_,rfl⟩ := loadFrom_clean (lo := 0) (hi := 0) h (names_iff.2 fun d _ => names1_none d) h0
    exact ⟨h1,none'⟩
  · rename_i sz t z n g k i
    cases hb : Nat.beq z sz with
    | false => rw [hb] at h; exact (holds_bad h).elim
    | true =>
      rw [hb] at h
      obtain ⟨_,rfl,rfl⟩ := holds_chk h
      exact ⟨trivial,none'⟩
  · obtain ⟨_,rfl,rfl⟩ := holds_chk h; exact ⟨trivial,none'⟩
  · obtain ⟨_,rfl,rfl⟩ := holds_chk h; exact ⟨trivial,none'⟩
  · obtain ⟨_,rfl,rfl⟩ := holds_chk h; exact ⟨trivial,none'⟩
  · rename_i g sz len l k i
    have h0 : ∀ e ∈ l.drop (i.toNat * sz),Cell e := fun e he => ha (.agg l) (by simp) e (List.mem_of_mem_drop he)
    cases hl : loadFrom g sz (l.drop (i.toNat * sz)) with
    | ok v' u' =>
      rw [hl] at h
      obtain ⟨_,rfl,rfl⟩ := holds_chk h
      have hl' : (loadFrom g sz (l.drop (i.toNat * sz))).holds v u := .inl hl
      have h1 := loadFrom_flat hl' h0
      obtain ⟨_,rfl⟩ := loadFrom_clean (lo := 0) (hi := 0) hl' (names_iff.2 fun d _ => names1_none d) h0
      exact ⟨h1,none'⟩
    | bad => rw [hl] at h; exact (holds_bad h).elim
    | ask p v' u' => rw [hl] at h; exact (holds_bad h).elim
    | chk p v' u' => rw [hl] at h; exact (holds_bad h).elim
    | alt p v' u' v2 u2 => rw [hl] at h; exact (holds_bad h).elim
  · rename_i zero parts
    cases hf : fill zero parts args with
    | none => rw [hf] at h; exact (holds_bad h).elim
    | some l =>
      rw [hf] at h
      obtain ⟨rfl,rfl⟩ := holds_val h
      simp only [opOk,List.all_eq_true] at ho
      exact ⟨ros_cell (fill_cell hf fun e he => flat1_cell (ho e he)),none'⟩
  · rename_i sz len zero parts
    cases hf : fill (rep len zero) parts args with
    | none => rw [hf] at h; exact (holds_bad h).elim
    | some l =>
      rw [hf] at h
      simp only at h
      cases hb : (Nat.beq zero.length sz && solid l) with
      | false => rw [hb] at h; exact (holds_bad h).elim
      | true =>
        rw [hb] at h
        obtain ⟨rfl,rfl⟩ := holds_val h
        exact ⟨trivial,none'⟩
  · rename_i sz lo' hi' mx t z n g r
    cases hb : Nat.beq z sz with
    | false => rw [hb] at h; exact (holds_bad h).elim
    | true =>
      rw [hb] at h
      simp only [Bool.not_true,cond_false] at h
      split at h
      · split at h
        · split at h
          · obtain ⟨_,rfl,rfl⟩ := holds_chk h
            exact ⟨trivial,none'⟩
          · exact (holds_bad h).elim
        · exact (holds_bad h).elim
      · exact (holds_bad h).elim
  · split at h
    · split at h
      · obtain ⟨_,rfl,rfl⟩ := holds_chk h
        exact ⟨trivial,none'⟩
      · exact (holds_bad h).elim
    · exact (holds_bad h).elim
  · rename_i sz len np' i off
    split at h
    · rename_i f cs hi'
      replace h := (holds_bnif h).2
      cases hb : (Nat.ble (off + len * sz) cs.length && Nat.ble np' i) with
      | false => rw [hb] at h; exact (holds_bad h).elim
      | true =>
        rw [hb] at h
        obtain ⟨rfl,rfl⟩ := holds_ok h
        refine ⟨trivial,fun y hy => ?_⟩
        simp only [List.mem_singleton] at hy
        subst hy
        exact pures_cell _
    · exact (holds_bad h).elim
  · rename_i sz len np' l
    cases hb : Nat.ble (len * sz) l.length with
    | false => rw [hb] at h; exact (holds_bad h).elim
    | true =>
      rw [hb] at h
      obtain ⟨rfl,rfl⟩ := holds_val h
      exact ⟨trivial,none'⟩
  · obtain ⟨rfl,rfl⟩ := holds_val h; exact ⟨trivial,none'⟩
  · obtain ⟨rfl,rfl⟩ := holds_val h; exact ⟨trivial,none'⟩
  · rename_i sz bytes t z n g t' z' m g'
    cases hb : Nat.beq z' sz with
    | false => rw [hb] at h; exact (holds_bad h).elim
    | true =>
      rw [hb] at h
      obtain ⟨h1,h2⟩ := append_flat h
      exact ⟨h1.flat,by rw [h2]; simp⟩
  · rename_i sz bytes t z n g b
    cases hb : Nat.beq sz 1 with
    | false => rw [hb] at h; exact (holds_bad h).elim
    | true =>
      rw [hb] at h
      obtain ⟨h1,h2⟩ := append_flat h
      exact ⟨h1.flat,by rw [h2]; simp⟩
  · have h1 := bin_flat h
    obtain ⟨_,rfl⟩ := bin_clean (lo := 0) (hi := 0) h
    exact ⟨h1.flat,none'⟩
  · obtain ⟨rfl,rfl⟩ := holds_val h; exact ⟨trivial,none'⟩
  · split at h
    · obtain ⟨rfl,rfl⟩ := holds_val h; exact ⟨trivial,none'⟩
    · exact (holds_bad h).elim
  · unfold un at h
    split at h
    · obtain ⟨rfl,rfl⟩ := holds_val h; exact ⟨trivial,none'⟩
    · obtain ⟨rfl,rfl⟩ := holds_val h; exact ⟨trivial,none'⟩
    · exact (holds_bad h).elim
  · obtain ⟨rfl,rfl⟩ := holds_val h; exact ⟨trivial,none'⟩
  · obtain ⟨rfl,rfl⟩ := holds_val h; exact ⟨trivial,none'⟩
  · obtain ⟨_,rfl,rfl⟩ := holds_ask h; exact ⟨trivial,none'⟩
  · obtain ⟨rfl,rfl⟩ := holds_val h; exact ⟨trivial,none'⟩
  · obtain ⟨rfl,rfl⟩ := holds_val h; exact ⟨trivial,none'⟩
  · rename_i f np'
    cases hf : freeze np' hp args with
    | none => rw [hf] at h; exact (holds_bad h).elim
    | some p =>
      obtain ⟨ds,us⟩ := p
      rw [hf] at h
      obtain ⟨rfl,rfl⟩ := holds_ok h
      exact ⟨trivial,freeze_cell args ds us hf⟩
  · rename_i i l
    have h1 := ha (.tup l) (by simp)
    cases hb : Nat.blt i l.length with
    | false => rw [hb] at h; exact (holds_bad h).elim
    | true =>
      rw [hb] at h
      obtain ⟨rfl,rfl⟩ := holds_val h
      refine ⟨?_,none'⟩
      rcases mem_nth (l := l) (j := i) with h2 | h2
      · have h4 := h1 _ h2
        generalize nth l i .dead = e at h4
        cases e with
        | agg c => exact fun x hx => (h4 x hx).1
        | tup c => exact h4.elim
        | _ => trivial
      · rw [h2]; trivial
  · rename_i zero bytes k l k' c
    cases hs : solid zero with
    | false => rw [hs] at h; exact (holds_bad h).elim
    | true =>
      rw [hs] at h
      obtain ⟨_,rfl,rfl⟩ := holds_ask h
      exact ⟨trivial,fun y hy => by simp at hy⟩
  · obtain ⟨rfl,rfl⟩ := holds_val h; exact ⟨trivial,none'⟩
  · obtain ⟨rfl,rfl⟩ := holds_val h; exact ⟨trivial,none'⟩
  · obtain ⟨rfl,rfl⟩ := holds_val h; exact ⟨trivial,none'⟩
  · obtain ⟨rfl,rfl⟩ := holds_ok h; exact ⟨trivial,fun y hy => by simp at hy⟩
  · obtain ⟨rfl,rfl⟩ := holds_ok h
    refine ⟨trivial,fun y hy => ?_⟩
    simp only [List.mem_singleton] at hy
    subst hy
    intro e he
    simp only [List.mem_cons,List.not_mem_nil,or_false] at he
    rcases he with rfl | rfl | rfl <;> trivial
  · rename_i i
    unfold nextOut at h
    split at h
    · rename_i s p hi'
      rcases holds_alt h with ⟨_,rfl,rfl⟩ | ⟨_,rfl,rfl⟩
      · refine ⟨fun e he => ?_,fun y hy => ?_⟩
        · simp only [List.mem_cons,List.not_mem_nil,or_false] at he
          rcases he with rfl | rfl | rfl <;> trivial
        · simp only [List.mem_singleton] at hy
          subst hy
          intro e he
          simp only [List.mem_cons,List.not_mem_nil,or_false] at he
          rcases he with rfl | rfl | rfl <;> trivial
      · refine ⟨fun e he => ?_,none'⟩
        simp only [List.mem_cons,List.not_mem_nil,or_false] at he
        rcases he with rfl
        trivial
    · exact (holds_bad h).elim
  · rename_i va
    obtain ⟨rfl,rfl⟩ := holds_ok h
    refine ⟨trivial,fun y hy => ?_⟩
    simp only [List.mem_singleton] at hy
    subst hy
    intro e he
    simp only [List.mem_cons,List.not_mem_nil,or_false] at he
    rcases he with rfl | rfl <;> trivial
  · unfold lenOut at h
    split at h
    · obtain ⟨rfl,rfl⟩ := holds_val h; exact ⟨trivial,none'⟩
    · exact (holds_bad h).elim
  · unfold setOut at h
    split at h
    · obtain ⟨_,h⟩ := holds_bif h
      obtain ⟨rfl,rfl⟩ := holds_ok h
      refine ⟨trivial,fun y hy => ?_⟩
      simp only [List.mem_singleton] at hy
      subst hy
      intro e he
      simp only [List.mem_cons,List.not_mem_nil,or_false] at he
      rcases he with rfl | rfl <;> trivial
    · exact (holds_bad h).elim
  · rename_i comma va zero i k
    unfold getOut at h
    split at h
    · rename_i va' n ks vs hi'
      obtain ⟨hva,h⟩ := holds_bif h
      have hva : va' = va := by cases va' <;> cases va <;> first | rfl | cases hva
      subst hva
      have hz : ∀ ok l,FlatS (getVal comma va' ok l) := fun ok l => by
        have e : FlatS (mkv va' (pures l)) ∧ FlatS (.tup [mkv va' (pures l),.bool ok]) := by
          cases va' with
          | true =>
            refine ⟨fun e he => ?_,fun e he => ?_⟩
            · obtain ⟨x,_,rfl⟩ := mem_pures he
              exact cell_pure1 x
            · simp only [List.mem_cons,List.not_mem_nil,or_false] at he
              rcases he with rfl | rfl
              · intro x hx
                obtain ⟨y,_,rfl⟩ := mem_pures hx
                exact ⟨cell_pure1 y,(pure1_pure1 y).symm⟩
              · trivial
          | false =>
            have : mkv false (pures l) = (nth l 0 .dead).pure1 := by
              simp only [mkv,cond_false]
              rw [nth_pures]
            rw [this]
            have hc := cell_pure1 (nth l 0 .dead)
            refine ⟨hc.flat,fun e he => ?_⟩
            simp only [List.mem_cons,List.not_mem_nil,or_false] at he
            rcases he with rfl | rfl
            · generalize (nth l 0 D.dead).pure1 = d at hc
              cases d <;> first | trivial | exact hc.elim
            · trivial
        cases comma with
        | false => exact e.1
        | true => exact e.2
      rcases holds_alt h with ⟨_,rfl,rfl⟩ | ⟨_,rfl,rfl⟩
      · exact ⟨hz _ _,none'⟩
      · exact ⟨hz _ _,none'⟩
    · exact (holds_bad h).elim
  · obtain ⟨rfl,rfl⟩ := holds_val h; exact ⟨trivial,none'⟩
  · obtain ⟨rfl,rfl⟩ := holds_val h; exact ⟨trivial,none'⟩
  · obtain ⟨rfl,rfl⟩ := holds_val h; exact ⟨trivial,none'⟩
  · rcases holds_alt h with ⟨_,rfl,rfl⟩ | ⟨_,rfl,rfl⟩
    · exact ⟨trivial,none'⟩
    · exact ⟨trivial,none'⟩
  · exact (holds_bad h).elim

end
end Go.Abs

/- Two operations that may be run in either order. -/
namespace Go.Abs
open Go

def gw (gd : D) (w : Bool) : Option Bool :=
  match gd with
  | .bool b => some (b == w)
  | .tup [] => some false
  | _ => none

def run1 (E : Env) (o : AO) (hp : Nat → Option (Bool × List D)) (tk : Nat → Option (Nat × Nat)) (args : List D) (gd : D) (k : D → Upd → Prop) : Prop :=
  match o.guard with
  | none => step E o.op o.id hp tk args k
  | some (_,w) => match gw gd w with
    | some true => step E o.op o.id hp tk args k
    | some false => k (.tup []) Upd.none
    | none => False

def gslot (o : AO) (fr : List D) : D := match o.guard with
  | none => .dead
  | some (j,_) => nth fr j .dead

def EnvMF (E : Env) : Prop := ∀ j C,ag E j = some C → (∀ ds bs K K',(∀ rs bs',K rs bs' → K' rs bs') → C ds bs K → C ds bs K') ∧ ∀ ds bs K,C ds bs K → ∃ rs bs',K rs bs'

section
variable {E : Env} {o p q : AO} {hp hp' : Nat → Option (Bool × List D)} {tk tk' : Nat → Option (Nat × Nat)} {args : List D} {k k' : D → Upd → Prop} {s : St} {lo hi : Nat}

theorem upd_same {l : List D} {j : Nat} {d : D} (h : nth l j .dead = d) (hd : d ≠ .dead) : upd l j d = l := by
  induction l generalizing j with
  | nil => rfl
  | cons a l ih => cases j with
    | zero => simp only [nth] at h; subst h; rfl
    | succ j => simp only [nth] at h; simp only [upd,ih h]

theorem updK_eq : ∀ (l : List D) (i : Nat) (d : D) (k : List D → Prop),updK l i d k = k (upd l i d)
  | [],_,_,_ => rfl
  | _ :: _,0,_,_ => rfl
  | a :: l,i + 1,d,k => updK_eq l i d fun l' => k (a :: l')

theorem setK_eq (dst : Option Nat) (v : D) (fr : List D) (k : List D → Prop) : setK dst v fr k = k (setDst dst v fr) := by
  cases dst with
  | none => rfl
  | some d => exact updK_eq fr d v k

theorem gOp_run1 (E : Env) (o : AO) (s : St) (k : St → Prop) : gOp E o s k ↔ run1 E o s.hp s.tk (evs s.fr o.args) (gslot o s.fr) (fun v u => k (s.next o.dst v u)) := by
  unfold gOp run1 gslot doOp
  simp only [setK_eq,updK_eq]
  cases hg : o.guard with
  | none => exact Iff.rfl
  | some jw =>
    obtain ⟨j,w⟩ := jw
    simp only
    cases hd : nth s.fr j .dead with
    | bool b =>
      simp only
      have hs : upd s.fr j (.bool b) = s.fr := upd_same hd (by simp)
      cases b <;> cases w <;> simp only [Br,hs,gw] <;> exact Iff.rfl
    | tup l => cases l <;> exact Iff.rfl
    | _ => exact Iff.rfl

theorem callK_mono {C : Contract} (hC : ∀ ds bs K K',(∀ rs bs',K rs bs' → K' rs bs') → C ds bs K → C ds bs K') {id : Nat} {vs : List D} (h : ∀ v u,k v u → k' v u) (hk : callK C id vs hp k) : callK C id vs hp k' := by
  unfold callK at hk ⊢
  split
  · rename_i bs hb
    rw [hb] at hk
    simp only at hk
    cases hd : distinct (ptrs vs) with
    | false => rw [hd] at hk; exact hk.elim
    | true =>
      rw [hd] at hk
      refine hC _ _ _ _ (fun rs bs' hh => ?_) hk
      obtain ⟨v,u,h1,h2⟩ := then_holds hh
      exact holds_then h1 (h v u h2)
  · rename_i hb
    rw [hb] at hk
    exact hk.elim

theorem then_mono {o : Out} (h : ∀ v u,k v u → k' v u) (hk : o.then k) : o.then k' := by
  obtain ⟨v,u,h1,h2⟩ := then_holds hk
  exact holds_then h1 (h v u h2)

def callee (E : Env) (op : AOp) (args : List D) : Option (Contract × List D × Bool) :=
  match op with
  | .call p f => (ag E f).map fun C => (C,args,p)
  | .callv p => match args with
    | .fn f cap :: r => (ag E f).map fun C => (C,r ++ cap,p)
    | _ => none
  | _ => none

theorem guardP (p b : Bool) (X : Prop) : (bif p then X else Br b X False) ↔ ((p = true ∨ b = true) ∧ X) := by
  cases p <;> cases b <;> simp [Br]

theorem step_iff {op : AOp} (hc : isCall op = true) (id : Nat) : step E op id hp tk args k ↔ ∃ C vs p,callee E op args = some (C,vs,p) ∧ (p = true ∨ noPtr vs = true) ∧ callK C id vs hp k := by
  rw [step_call]
  cases op <;> first | cases hc | skip
  · rename_i p f
    simp only [callee]
    cases hE : ag E f with
    | none => simp
    | some C =>
      simp only [Option.map_some,Option.some.injEq,Prod.mk.injEq]
      rw [guardP]
      constructor
      · exact fun h => ⟨C,args,p,⟨rfl,rfl,rfl⟩,h⟩
      · rintro ⟨_,_,_,⟨rfl,rfl,rfl⟩,h⟩
        exact h
  · rename_i p
    simp only [callee]
    split
    · rename_i f cap r
      cases hE : ag E f with
      | none =>
        constructor
        · exact fun h => h.elim
        · rintro ⟨_,_,_,h,_⟩
          simp [hE] at h
      | some C =>
        constructor
        · exact fun h => ⟨C,r ++ cap,p,by simp [hE],(guardP _ _ _).1 h⟩
        · rintro ⟨_,_,_,h,h2⟩
          simp only [hE,Option.map_some,Option.some.injEq,Prod.mk.injEq] at h
          obtain ⟨rfl,rfl,rfl⟩ := h
          exact (guardP _ _ _).2 h2
    · simp

theorem step_out {op : AOp} (hc : isCall op = false) (id : Nat) : step E op id hp tk args k ↔ (outOf op id hp tk args).then k := by
  rw [step_call]
  cases op <;> first | exact Iff.rfl | cases hc

theorem callee_ag {op : AOp} {C : Contract} {vs : List D} {p : Bool} (h : callee E op args = some (C,vs,p)) : ∃ j,ag E j = some C := by
  unfold callee at h
  split at h
  · rw [Option.map_eq_some_iff] at h
    obtain ⟨C',h1,h2⟩ := h
    cases h2
    exact ⟨_,h1⟩
  · split at h
    · rw [Option.map_eq_some_iff] at h
      obtain ⟨C',h1,h2⟩ := h
      cases h2
      exact ⟨_,h1⟩
    · cases h
  · cases h

theorem step_mono (hE : EnvMF E) {op : AOp} {id : Nat} (h : ∀ v u,k v u → k' v u) (hk : step E op id hp tk args k) : step E op id hp tk args k' := by
  cases hc : isCall op with
  | true =>
    obtain ⟨C,vs,p,h1,h2,h3⟩ := (step_iff hc id).1 hk
    obtain ⟨j,hj⟩ := callee_ag h1
    exact (step_iff hc id).2 ⟨C,vs,p,h1,h2,callK_mono (hE j C hj).1 h h3⟩
  | false => exact (step_out hc id).2 (then_mono h ((step_out hc id).1 hk))

theorem callK_some {C : Contract} {id : Nat} {vs : List D} : callK C id vs hp k ↔ ∃ bs,blocksOf hp (ptrs vs) = some bs ∧ distinct (ptrs vs) = true ∧ C (argv vs 0) bs (fun rs bs' => (callOut id (ptrs vs) bs.length rs bs').then k) := by
  have hBr : ∀ (b : Bool) (X : Prop),Br b X False ↔ (b = true ∧ X) := fun b X => by cases b <;> simp [Br]
  unfold callK
  cases hb : blocksOf hp (ptrs vs) with
  | none => simp
  | some bs =>
    simp only [hBr]
    constructor
    · rintro ⟨h1,h2⟩
      exact ⟨bs,rfl,h1,h2⟩
    · rintro ⟨_,h,h1,h2⟩
      cases h
      exact ⟨h1,h2⟩

theorem step_feas (hE : EnvMF E) {op : AOp} {id : Nat} (hk : step E op id hp tk args k) : ∃ v u,k v u := by
  cases hc : isCall op with
  | true =>
    obtain ⟨C,vs,p,h1,h2,h3⟩ := (step_iff hc id).1 hk
    obtain ⟨j,hj⟩ := callee_ag h1
    obtain ⟨bs,_,_,h6⟩ := callK_some.1 h3
    obtain ⟨rs,bs',h7⟩ := (hE j C hj).2 _ _ _ h6
    obtain ⟨v,u,_,h8⟩ := then_holds h7
    exact ⟨v,u,h8⟩
  | false =>
    obtain ⟨v,u,_,h2⟩ := then_holds ((step_out hc id).1 hk)
    exact ⟨v,u,h2⟩

theorem run1_mono (hE : EnvMF E) {gd : D} (h : ∀ v u,k v u → k' v u) (hk : run1 E o hp tk args gd k) : run1 E o hp tk args gd k' := by
  unfold run1 at hk ⊢
  cases hg : o.guard with
  | none => rw [hg] at hk; exact step_mono hE h hk
  | some jw =>
    obtain ⟨j,w⟩ := jw
    rw [hg] at hk
    simp only at hk ⊢
    cases hb : gw gd w with
    | none => rw [hb] at hk; exact hk.elim
    | some b =>
      rw [hb] at hk
      cases b with
      | true => exact step_mono hE h hk
      | false => exact h _ _ hk

theorem run1_feas (hE : EnvMF E) {gd : D} (hk : run1 E o hp tk args gd k) : ∃ v u,k v u := by
  unfold run1 at hk
  split at hk
  · exact step_feas hE hk
  · split at hk
    · exact step_feas hE hk
    · exact ⟨_,_,hk⟩
    · exact hk.elim

theorem noPtr_ptrs : ∀ {l : List D},noPtr l = true → ptrs l = []
  | [],_ => rfl
  | d :: l,h => by
    cases d <;> first | cases h | exact noPtr_ptrs (l := l) h

structure Keys (op : AOp) (id : Nat) (tk : Nat → Option (Nat × Nat)) (u : Upd) : Prop where
  q : quiet op = true → u = Upd.none
  h : loud op = false → ∀ x ∈ u.h,id ≤ x.1 ∧ x.1 < id + idsOf op
  t : ∀ x ∈ u.t,(id ≤ x.1 ∧ x.1 < id + idsOf op) ∨ (isAppend op = true ∧ tk x.1 ≠ none)

theorem Keys.none {op : AOp} {id : Nat} : Keys op id tk Upd.none := ⟨fun _ => rfl,fun _ x hx => by simp [Upd.none] at hx,fun x hx => by simp [Upd.none] at hx⟩

theorem loadFrom_upd {g : Bool} {n : Nat} {l : List D} {v : D} {u : Upd} (h : (loadFrom g n l).holds v u) : u = Upd.none := by
  unfold loadFrom at h
  cases hb : Nat.ble n l.length with
  | false => rw [hb] at h; exact (holds_bad h).elim
  | true => rw [hb] at h; exact (holds_val h).2

theorem bin_upd {op : BinOp} {x y v : D} {u : Upd} (h : (bin op x y).holds v u) : u = Upd.none := (bin_clean (lo := 0) (hi := 0) h).2

theorem append_keys {sz bytes id : Nat} {t : Tag} {z n : Nat} {g : Nat → List D} {m : Nat} {k : Nat → List D} {v : D} {u : Upd} (h : (appendOut id sz bytes tk t z n g m k).holds v u) : Keys (.append sz bytes) id tk u := by
  unfold appendOut at h
  cases hb : Nat.beq z sz with
  | false => rw [hb] at h; exact (holds_bad h).elim
  | true =>
    rw [hb] at h
    simp only [Bool.not_true,cond_false] at h
    split at h
    · rename_i i
      split at h
      · rename_i z' n' hi'
        cases hb2 : Nat.beq z' sz with
        | false => rw [hb2] at h; exact (holds_bad h).elim
        | true =>
          rw [hb2] at h
          obtain ⟨_,rfl,rfl⟩ := holds_ask h
          refine ⟨fun h => (by cases h),fun _ x hx => by simp at hx,fun x hx => ?_⟩
          simp only [List.mem_singleton] at hx
          subst hx
          exact .inr ⟨rfl,by simp [hi']⟩
      · exact (holds_bad h).elim
    · obtain ⟨_,rfl,rfl⟩ := holds_ask h
      refine ⟨fun h => (by cases h),fun _ x hx => by simp at hx,fun x hx => ?_⟩
      simp only [List.mem_singleton] at hx
      subst hx
      exact .inl (by simp [idsOf])
    · exact (holds_bad h).elim

theorem out_keys {op : AOp} {id : Nat} {v : D} {u : Upd} (hh : (outOf op id hp tk args).holds v u) : Keys op id tk u := by
  have N : ∀ {u : Upd},u = Upd.none → Keys op id tk u := fun h => h ▸ Keys.none
  unfold outOf at hh
  split at hh
  all_goals (try (exact (holds_bad hh).elim))
  all_goals (try (exact N (holds_val hh).2))
  all_goals (try (exact N (holds_chk hh).2.2))
  all_goals (try (exact N (holds_ask hh).2.2))
  all_goals (try (exact N (loadFrom_upd hh)))
  all_goals (try (exact N (bin_upd hh)))
  · rename_i cells
    cases hs : solid cells with
    | false => rw [hs] at hh; exact (holds_bad hh).elim
    | true =>
      rw [hs] at hh
      obtain ⟨rfl,rfl⟩ := holds_ok hh
      refine ⟨fun h => (by cases h),fun _ x hx => ?_,fun x hx => .inl ?_⟩
      · simp only [List.mem_singleton] at hx
        subst hx
        simp only [idsOf]
        omega
      · have h1 := newToks_ge _ _ _ hx
        have h2 := newToks_lt _ _ _ hx
        simp only [idsOf]
        omega
  · rename_i x
    cases hs : solid x.cells with
    | false => rw [hs] at hh; exact (holds_bad hh).elim
    | true =>
      rw [hs] at hh
      obtain ⟨rfl,rfl⟩ := holds_ok hh
      refine ⟨fun h => (by cases h),fun _ x hx => ?_,fun x hx => by simp at hx⟩
      simp only [List.mem_singleton] at hx
      subst hx
      simp [idsOf]
  · split at hh
    · exact N (loadFrom_upd (holds_bif hh).2)
    · exact (holds_bad hh).elim
  · rename_i n i off x
    split at hh
    · rename_i cs hi'
      replace hh := (holds_bnif hh).2
      cases hb : (solid x.cells && Nat.beq x.cells.length n && Nat.ble (off + n) cs.length) with
      | false => rw [hb] at hh; exact (holds_bad hh).elim
      | true =>
        rw [hb] at hh
        obtain ⟨rfl,rfl⟩ := holds_ok hh
        exact ⟨fun h => (by cases h),fun h => (by cases h),fun x hx => by simp at hx⟩
    · exact (holds_bad hh).elim
  · rename_i sz t z n g k i
    cases hb : Nat.beq z sz with
    | false => rw [hb] at hh; exact (holds_bad hh).elim
    | true => rw [hb] at hh; exact N (holds_chk hh).2.2
  · rename_i g sz len l k i
    cases hl : loadFrom g sz (l.drop (i.toNat * sz)) with
    | ok v' u' =>
      rw [hl] at hh
      obtain ⟨_,rfl,rfl⟩ := holds_chk hh
      exact N (loadFrom_upd (v := v) (.inl hl))
    | bad => rw [hl] at hh; exact (holds_bad hh).elim
    | ask p v' u' => rw [hl] at hh; exact (holds_bad hh).elim
    | chk p v' u' => rw [hl] at hh; exact (holds_bad hh).elim
    | alt p v' u' v2 u2 => rw [hl] at hh; exact (holds_bad hh).elim
  · split at hh
    · exact N (holds_val hh).2
    · exact (holds_bad hh).elim
  · rename_i sz len zero parts
    split at hh
    · rename_i l hl
      cases hb : (Nat.beq zero.length sz && solid l) with
      | false => rw [hb] at hh; exact (holds_bad hh).elim
      | true => rw [hb] at hh; exact N (holds_val hh).2
    · exact (holds_bad hh).elim
  · rename_i sz lo' hi' mx t z n g r
    cases hb : Nat.beq z sz with
    | false => rw [hb] at hh; exact (holds_bad hh).elim
    | true =>
      rw [hb] at hh
      simp only [Bool.not_true,cond_false] at hh
      split at hh
      · split at hh
        · split at hh
          · exact N (holds_chk hh).2.2
          · exact (holds_bad hh).elim
        · exact (holds_bad hh).elim
      · exact (holds_bad hh).elim
  · split at hh
    · split at hh
      · exact N (holds_chk hh).2.2
      · exact (holds_bad hh).elim
    · exact (holds_bad hh).elim
  · rename_i sz len np' i off
    split at hh
    · rename_i f cs hi'
      replace hh := (holds_bnif hh).2
      cases hb : (Nat.ble (off + len * sz) cs.length && Nat.ble np' i) with
      | false => rw [hb] at hh; exact (holds_bad hh).elim
      | true =>
        rw [hb] at hh
        obtain ⟨rfl,rfl⟩ := holds_ok hh
        exact ⟨fun h => (by cases h),fun h => (by cases h),fun x hx => by simp at hx⟩
    · exact (holds_bad hh).elim
  · rename_i sz len np' l
    cases hb : Nat.ble (len * sz) l.length with
    | false => rw [hb] at hh; exact (holds_bad hh).elim
    | true => rw [hb] at hh; exact N (holds_val hh).2
  · rename_i sz bytes t z n g t' z' m g'
    cases hb : Nat.beq z' sz with
    | false => rw [hb] at hh; exact (holds_bad hh).elim
    | true => rw [hb] at hh; exact append_keys hh
  · rename_i sz bytes t z n g b
    cases hb : Nat.beq sz 1 with
    | false => rw [hb] at hh; exact (holds_bad hh).elim
    | true => rw [hb] at hh; exact append_keys hh
  · split at hh
    · exact N (holds_val hh).2
    · exact (holds_bad hh).elim
  · unfold un at hh
    split at hh
    · exact N (holds_val hh).2
    · exact N (holds_val hh).2
    · exact (holds_bad hh).elim
  · rename_i f np'
    split at hh
    · obtain ⟨rfl,rfl⟩ := holds_ok hh
      exact ⟨fun h => (by cases h),fun h => (by cases h),fun x hx => by simp at hx⟩
    · exact (holds_bad hh).elim
  · rename_i i l
    cases hb : Nat.blt i l.length with
    | false => rw [hb] at hh; exact (holds_bad hh).elim
    | true => rw [hb] at hh; exact N (holds_val hh).2
  · rename_i zero bytes k l k' c
    cases hs : solid zero with
    | false => rw [hs] at hh; exact (holds_bad hh).elim
    | true =>
      rw [hs] at hh
      obtain ⟨_,rfl,rfl⟩ := holds_ask hh
      refine ⟨fun h => (by cases h),fun _ x hx => by simp at hx,fun x hx => .inl ?_⟩
      simp only [List.mem_singleton] at hx
      subst hx
      simp [idsOf]
  · obtain ⟨rfl,rfl⟩ := holds_ok hh
    refine ⟨fun h => (by cases h),fun _ x hx => by simp at hx,fun x hx => .inl ?_⟩
    simp only [List.mem_singleton] at hx
    subst hx
    simp [idsOf]
  · obtain ⟨rfl,rfl⟩ := holds_ok hh
    refine ⟨fun h => (by cases h),fun _ x hx => ?_,fun x hx => by simp at hx⟩
    simp only [List.mem_singleton] at hx
    subst hx
    simp [idsOf]
  · unfold nextOut at hh
    split at hh
    · rcases holds_alt hh with ⟨_,rfl,rfl⟩ | ⟨_,rfl,rfl⟩
      · exact ⟨fun h => (by cases h),fun h => (by cases h),fun x hx => by simp at hx⟩
      · exact N rfl
    · exact (holds_bad hh).elim
  · obtain ⟨rfl,rfl⟩ := holds_ok hh
    refine ⟨fun h => (by cases h),fun _ x hx => ?_,fun x hx => by simp at hx⟩
    simp only [List.mem_singleton] at hx
    subst hx
    simp [idsOf]
  · unfold lenOut at hh
    split at hh
    · exact N (holds_val hh).2
    · exact (holds_bad hh).elim
  · unfold setOut at hh
    split at hh
    · obtain ⟨_,hh⟩ := holds_bif hh
      obtain ⟨rfl,rfl⟩ := holds_ok hh
      exact ⟨fun h => (by cases h),fun h => (by cases h),fun x hx => by simp at hx⟩
    · exact (holds_bad hh).elim
  · unfold getOut at hh
    split at hh
    · obtain ⟨_,hh⟩ := holds_bif hh
      rcases holds_alt hh with ⟨_,rfl,rfl⟩ | ⟨_,rfl,rfl⟩
      · exact N rfl
      · exact N rfl
    · exact (holds_bad hh).elim
  · rcases holds_alt hh with ⟨_,rfl,rfl⟩ | ⟨_,rfl,rfl⟩
    · exact N rfl
    · exact N rfl

end
end Go.Abs

/- Two operations that are apart may change places. -/
namespace Go.Abs
open Go

section
variable {E : Env} {o p q : AO} {hp hp' : Nat → Option (Bool × List D)} {tk tk' : Nat → Option (Nat × Nat)} {args : List D} {k k' : D → Upd → Prop} {s : St} {lo hi : Nat}

theorem Tidy.dead (h : Tidy lo hi s) (dst : Option Nat) : Tidy lo hi (s.next dst (.tup []) Upd.none) :=
  h.after (v := .tup []) ⟨rfl,fun e he => by cases he⟩ (fun x hx => by simp [Upd.none] at hx) (fun x hx => by simp [Upd.none] at hx) dst

theorem res_flat (d : D) (i : Nat) : FlatS (d.res.own i) ∧ (match d.res.own i with | .agg c => ∀ x ∈ c,Cell x ∧ x = x.pure1 | .tup _ => False | _ => True) := by
  cases d with
  | slice t z n g => cases t <;> exact ⟨trivial,trivial⟩
  | agg c =>
    refine ⟨pures_cell c,fun x hx => ⟨pures_cell c x hx,?_⟩⟩
    obtain ⟨y,_,rfl⟩ := mem_pures hx
    exact (pure1_pure1 y).symm
  | _ => exact ⟨trivial,trivial⟩

theorem pack_flat (rs : List D) (id : Nat) : FlatS (packRes (retag (pureRes rs) id)) := by
  have hnth : ∀ j,FlatS (nth (retag (pureRes rs) id) j .dead) ∧ (match nth (retag (pureRes rs) id) j .dead with | .agg c => ∀ x ∈ c,Cell x ∧ x = x.pure1 | .tup _ => False | _ => True) := fun j => by
    rw [nth_retag,nth_pureRes]
    exact res_flat _ _
  generalize retag (pureRes rs) id = l at hnth
  match l with
  | [] => intro e he; cases he
  | [d] => exact (hnth 0).1
  | d :: d' :: l =>
    show FlatS (.tup (d :: d' :: l))
    intro e he
    obtain ⟨j,hj,rfl⟩ := List.mem_iff_getElem.1 he
    have := (hnth j).2
    rw [nth_lt _ _ hj] at this
    exact this

theorem call_tidy (h : Tidy lo hi s) {id : Nat} {ids : List Nat} {bs bs' : List (List D)} (hb : blocksOf s.hp ids = some bs) {rs : List D} (h4 : rs.length ≤ 4) (hid : id + 4 ≤ lo ∨ hi ≤ id) (dst : Option Nat) :
    Tidy lo hi (s.next dst (packRes (retag (pureRes rs) id)) ⟨zipBlocks ids (puress bs'),newToks (pureRes rs) id⟩) := by
  have hc := call_clean h.clean hb (bs' := bs') h4 hid dst
  refine ⟨fun d hd => ?_,fun i f cs hx => ?_,hc.tk⟩
  · obtain ⟨j,hj,rfl⟩ := List.mem_iff_getElem.1 hd
    have h1 := hc.fr j hj
    rw [nth_lt _ _ hj] at h1
    refine ⟨h1,?_⟩
    rcases mem_setDst hd with h2 | h2
    · rw [h2]; exact pack_flat rs id
    · exact (h.fr _ h2).2
  · refine ⟨(hc.hp i f cs hx).1,(hc.hp i f cs hx).2,?_⟩
    rcases updH_mem hx with h1 | h1
    · exact (h.hp i f cs h1).2.2
    · obtain ⟨_,h2⟩ := mem_zip h1
      obtain ⟨c,h3⟩ := mem_puress h2
      simp only at h3
      rw [h3]
      exact pures_cell c

theorem call_tidy_new (h : Tidy lo hi s) {id : Nat} {ids : List Nat} {bs bs' : List (List D)} (hb : blocksOf s.hp ids = some bs) {l : List D} (hid : id + 4 ≤ lo ∨ hi ≤ id) (dst : Option Nat) :
    Tidy lo hi (s.next dst (.ptr id 0) ⟨zipBlocks ids (puress bs') ++ [(id,false,pures l)],[]⟩) := by
  have hc := call_clean_new h.clean hb (bs' := bs') (l := l) hid dst
  refine ⟨fun d hd => ?_,fun i f cs hx => ?_,hc.tk⟩
  · obtain ⟨j,hj,rfl⟩ := List.mem_iff_getElem.1 hd
    have h1 := hc.fr j hj
    rw [nth_lt _ _ hj] at h1
    refine ⟨h1,?_⟩
    rcases mem_setDst hd with h2 | h2
    · rw [h2]; trivial
    · exact (h.fr _ h2).2
  · refine ⟨(hc.hp i f cs hx).1,(hc.hp i f cs hx).2,?_⟩
    rcases updH_mem hx with h1 | h1
    · exact (h.hp i f cs h1).2.2
    · rcases List.mem_append.1 h1 with h1 | h1
      · obtain ⟨_,h2⟩ := mem_zip h1
        obtain ⟨c,h3⟩ := mem_puress h2
        simp only at h3
        rw [h3]
        exact pures_cell c
      · simp only [List.mem_singleton,Prod.mk.injEq] at h1
        obtain ⟨_,_,rfl⟩ := h1
        exact pures_cell l

def After (o : AO) (s : St) (v : D) (u : Upd) : Prop :=
  Keys o.op o.id s.tk u ∧ ∀ lo hi,Tidy lo hi s → (o.id + idsOf o.op ≤ lo ∨ hi ≤ o.id) → Tidy lo hi (s.next o.dst v u)

theorem step_after (hE : EnvMF E) (hok : opOk o.op = true) (hax : o.args.all axOk = true) (h : step E o.op o.id s.hp s.tk (evs s.fr o.args) k) : step E o.op o.id s.hp s.tk (evs s.fr o.args) (fun v u => k v u ∧ After o s v u) := by
  cases hc : isCall o.op with
  | true =>
    obtain ⟨C,vs,p,h1,h2,h3⟩ := (step_iff hc o.id).1 h
    refine (step_iff hc o.id).2 ⟨C,vs,p,h1,h2,?_⟩
    obtain ⟨bs,h4,h5,h6⟩ := callK_some.1 h3
    refine callK_some.2 ⟨bs,h4,h5,?_⟩
    obtain ⟨j,hj⟩ := callee_ag h1
    refine (hE j C hj).1 _ _ _ _ (fun rs bs' hh => ?_) h6
    obtain ⟨v,u,hho,hk⟩ := then_holds hh
    have hi4 : idsOf o.op = 4 := by cases hop : o.op <;> rw [hop] at hc <;> first | rfl | cases hc
    have hzip : loud o.op = false → zipBlocks (ptrs vs) (puress bs') = [] := fun hl' => by
      have hp : p = false := by
        cases hop : o.op <;> rw [hop] at hc hl' h1 <;> first | cases hc | skip
        · simp only [callee,Option.map_eq_some_iff] at h1
          obtain ⟨_,_,h1⟩ := h1
          cases h1
          cases p <;> first | rfl | cases hl'
        · simp only [callee] at h1
          split at h1
          · simp only [Option.map_eq_some_iff] at h1
            obtain ⟨_,_,h1⟩ := h1
            cases h1
            cases p <;> first | rfl | cases hl'
          · cases h1
      subst hp
      have hn := h2.resolve_left (by simp)
      rw [noPtr_ptrs hn]
      rfl
    have hq0 : quiet o.op = true → u = Upd.none := fun hq => by
      cases hop : o.op <;> rw [hop] at hc hq <;> first | (cases hq; done) | (cases hc; done)
    refine holds_then hho ⟨hk,⟨hq0,fun hl' x hx => ?_,fun x hx => .inl ?_⟩,fun lo hi ht hid => ?_⟩
    · obtain ⟨_,_,⟨_,rfl,rfl⟩ | ⟨l,rfl,_,rfl,rfl⟩⟩ := callOut_cases hho
      · rw [hzip hl'] at hx
        simp at hx
      · rw [hzip hl'] at hx
        simp only [List.nil_append,List.mem_singleton] at hx
        subst hx
        simp only
        omega
    · obtain ⟨_,_,⟨hl,rfl,rfl⟩ | ⟨l,rfl,_,rfl,rfl⟩⟩ := callOut_cases hho
      · have e1 := newToks_ge _ _ _ hx
        have e2 := newToks_lt _ _ _ hx
        rw [length_pureRes] at e2
        omega
      · simp at hx
    · rw [hi4] at hid
      obtain ⟨_,_,⟨hl,rfl,rfl⟩ | ⟨l,rfl,_,rfl,rfl⟩⟩ := callOut_cases hho
      · exact call_tidy ht h4 hl hid o.dst
      · exact call_tidy_new ht h4 hid o.dst
  | false =>
    have h := (step_out hc o.id).1 h
    obtain ⟨v,u,h1,h2⟩ := then_holds h
    refine (step_out hc o.id).2 (holds_then h1 ⟨h2,out_keys h1,fun lo hi ht hid => ?_⟩)
    have ha := evs_tidy ht hax
    obtain ⟨e1,e2,e3⟩ := out_clean h1 hok (fun d hd => ⟨(ha d hd).1,(ha d hd).2.flatD⟩) ht.hp ht.tk hid
    obtain ⟨e4,e5⟩ := out_flat h1 hok (fun d hd => (ha d hd).2) (fun i f cs hx => (ht.hp i f cs hx).2.2)
    exact ht.after ⟨e1,e4⟩ (fun x hx => ⟨(e2 x hx).1,(e2 x hx).2,e5 x hx⟩) e3 o.dst

theorem run1_after (hE : EnvMF E) (hok : opOk o.op = true) (hax : o.args.all axOk = true) {gd : D} (h : run1 E o s.hp s.tk (evs s.fr o.args) gd k) : run1 E o s.hp s.tk (evs s.fr o.args) gd (fun v u => k v u ∧ After o s v u) := by
  unfold run1 at h ⊢
  cases hg : o.guard with
  | none => rw [hg] at h; exact step_after hE hok hax h
  | some jw =>
    obtain ⟨j,w⟩ := jw
    rw [hg] at h
    simp only at h ⊢
    cases hb : gw gd w with
    | none => rw [hb] at h; exact h.elim
    | some b =>
      rw [hb] at h
      cases b with
      | true => exact step_after hE hok hax h
      | false => exact ⟨h,Keys.none,fun lo hi ht _ => ht.dead o.dst⟩

def D.idOf : D → Option Nat
  | .ptr i _ => some i
  | .mref i => some i
  | .msl i _ _ => some i
  | .rptr i _ _ _ _ => some i
  | _ => none

theorem idOf_names {d : D} {i lo hi : Nat} (h : d.idOf = some i) (hn : d.names lo hi = false) : (Nat.ble lo i && Nat.blt i hi) = false := by
  cases d <;> cases h <;> exact hn

def Alike' (op : AOp) (args : List D) (hp hp' : Nat → Option (Bool × List D)) (tk tk' : Nat → Option (Nat × Nat)) : Prop :=
  quiet op = true ∨ (hp = hp' ∧ tk = tk') ∨
  (loud op = false ∧ (∀ d ∈ args,∀ i,d.idOf = some i → hp i = hp' i) ∧ (isAppend op = true → ∀ i z n g,D.slice (.own i) z n g ∈ args → tk i = tk' i))

theorem append_alike {id sz bytes : Nat} {t : Tag} {z n : Nat} {g : Nat → List D} {m : Nat} {kk : Nat → List D} (h : ∀ i,t = .own i → tk i = tk' i) : appendOut id sz bytes tk t z n g m kk = appendOut id sz bytes tk' t z n g m kk := by
  unfold appendOut
  cases t with
  | own i => simp only [h i rfl]
  | _ => rfl

theorem out_alike {op : AOp} {id : Nat} (h : Alike' op args hp hp' tk tk') : outOf op id hp tk args = outOf op id hp' tk' args := by
  rcases h with h | ⟨rfl,rfl⟩ | ⟨h1,h2,h3⟩
  · unfold outOf
    split <;> first | rfl | cases h
  · rfl
  · unfold outOf
    split <;> first | rfl | (cases h1; done) | skip
    · rename_i g n i off
      simp only [h2 (.ptr i off) (by simp) i rfl]
    · rename_i sz bytes t z n g t' z' m g'
      rw [append_alike (fun i e => h3 rfl i z n g (by simp [e]))]
    · rename_i sz bytes t z n g b
      rw [append_alike (fun i e => h3 rfl i z n g (by simp [e]))]
    · rename_i i
      rw [h2 (.mref i) (by simp) i rfl]
    · rename_i i k
      rw [h2 (.mref i) (by simp) i rfl]

theorem callK_alike {C : Contract} {id : Nat} {vs : List D} (h : ptrs vs = []) (hk : callK C id vs hp k) : callK C id vs hp' k := by
  unfold callK at hk ⊢
  rw [h] at hk ⊢
  exact hk

theorem step_alike {op : AOp} {id : Nat} (h : Alike' op args hp hp' tk tk') (hk : step E op id hp tk args k) : step E op id hp' tk' args k := by
  cases hc : isCall op with
  | true =>
    rcases h with h | ⟨rfl,rfl⟩ | ⟨h1,h2,h3⟩
    · cases op <;> first | (cases h; done) | (cases hc; done)
    · exact hk
    · obtain ⟨C,vs,p,e1,e2,e3⟩ := (step_iff hc id).1 hk
      have hp0 : p = false := by
        cases op <;> first | cases hc | skip
        · simp only [callee,Option.map_eq_some_iff] at e1
          obtain ⟨_,_,e1⟩ := e1
          cases e1
          cases p <;> first | rfl | cases h1
        · simp only [callee] at e1
          split at e1
          · simp only [Option.map_eq_some_iff] at e1
            obtain ⟨_,_,e1⟩ := e1
            cases e1
            cases p <;> first | rfl | cases h1
          · cases e1
      subst hp0
      have hn := noPtr_ptrs (e2.resolve_left (by simp))
      exact (step_iff hc id).2 ⟨C,vs,false,e1,e2,callK_alike hn e3⟩
  | false =>
    have := (step_out hc id).1 hk
    rw [out_alike h] at this
    exact (step_out hc id).2 this

theorem run1_alike {gd : D} (h : Alike' o.op args hp hp' tk tk') (hk : run1 E o hp tk args gd k) : run1 E o hp' tk' args gd k := by
  unfold run1 at hk ⊢
  cases hg : o.guard with
  | none => rw [hg] at hk; exact step_alike h hk
  | some jw =>
    obtain ⟨j,w⟩ := jw
    rw [hg] at hk
    simp only at hk ⊢
    cases hb : gw gd w with
    | none => rw [hb] at hk; exact hk.elim
    | some b =>
      rw [hb] at hk
      cases b with
      | true => exact step_alike h hk
      | false => exact hk

def outG (o : AO) (hp : Nat → Option (Bool × List D)) (tk : Nat → Option (Nat × Nat)) (args : List D) (gd : D) : Out :=
  match o.guard with
  | none => outOf o.op o.id hp tk args
  | some (_,w) => match gw gd w with
    | some true => outOf o.op o.id hp tk args
    | some false => .ok (.tup []) Upd.none
    | none => .bad

theorem run1_out (hc : isCall o.op = false) {gd : D} : run1 E o hp tk args gd k ↔ (outG o hp tk args gd).then k := by
  unfold run1 outG
  cases o.guard with
  | none => exact step_out hc o.id
  | some jw =>
    obtain ⟨j,w⟩ := jw
    simp only
    cases gw gd w with
    | none => exact Iff.rfl
    | some b =>
      cases b with
      | true => exact step_out hc o.id
      | false => exact Iff.rfl

theorem holds_fun {o : Out} {v v' : D} {u u' : Upd} (h : o.holds v u) (h' : o.holds v' u') : v = v' ∧ u = u' := by
  cases o with
  | bad => exact (holds_bad h).elim
  | ok _ _ => obtain ⟨rfl,rfl⟩ := holds_ok h; obtain ⟨rfl,rfl⟩ := holds_ok h'; exact ⟨rfl,rfl⟩
  | ask _ _ _ => obtain ⟨_,rfl,rfl⟩ := holds_ask h; obtain ⟨_,rfl,rfl⟩ := holds_ask h'; exact ⟨rfl,rfl⟩
  | chk _ _ _ => obtain ⟨_,rfl,rfl⟩ := holds_chk h; obtain ⟨_,rfl,rfl⟩ := holds_chk h'; exact ⟨rfl,rfl⟩
  | alt b _ _ _ _ =>
    rcases holds_alt h with ⟨hb,rfl,rfl⟩ | ⟨hb,rfl,rfl⟩ <;> rcases holds_alt h' with ⟨hb',rfl,rfl⟩ | ⟨hb',rfl,rfl⟩ <;> first | exact ⟨rfl,rfl⟩ | (rw [hb] at hb'; cases hb')

theorem exchange (hE : EnvMF E) (hcalls : (isCall q.op && isCall p.op) = false) {aq ap gq gp} {f : D → Upd → D → Upd → Prop} (h : run1 E q hp tk aq gq (fun vq uq => run1 E p hp tk ap gp (fun vp up => f vq uq vp up))) :
    run1 E p hp tk ap gp (fun vp up => run1 E q hp tk aq gq (fun vq uq => f vq uq vp up)) := by
  cases hq : isCall q.op with
  | false =>
    obtain ⟨vq,uq,h1,h2⟩ := then_holds ((run1_out hq).1 h)
    exact run1_mono hE (fun vp up h3 => (run1_out hq).2 (holds_then h1 h3)) h2
  | true =>
    have hp' : isCall p.op = false := by rw [hq] at hcalls; simpa using hcalls
    obtain ⟨vq,uq,h1⟩ := run1_feas hE h
    obtain ⟨vp,up,h2,_⟩ := then_holds ((run1_out hp').1 h1)
    refine (run1_out hp').2 (holds_then h2 ?_)
    refine run1_mono hE (fun vq uq h3 => ?_) h
    obtain ⟨vp',up',h4,h5⟩ := then_holds ((run1_out hp').1 h3)
    have : vp' = vp ∧ up' = up := by
      exact holds_fun h4 h2
    rw [← this.1,← this.2]
    exact h5

end
end Go.Abs

/- Operations that are apart change places. -/
namespace Go.Abs
open Go

section
variable {E : Env} {o p q : AO} {s : St} {lo hi : Nat}

theorem updH_out : ∀ {l : List (Nat × Bool × List D)} {f : Nat → Option (Bool × List D)} {j : Nat},(∀ x ∈ l,x.1 ≠ j) → updH f l j = f j
  | [],_,_,_ => rfl
  | (i,e) :: l,f,j,h => by
    simp only [updH]
    rw [updH_out (fun x hx => h x (List.mem_cons_of_mem _ hx))]
    have : Nat.beq j i = false := by
      cases hh : Nat.beq j i with
      | false => rfl
      | true => exact absurd (Nat.eq_of_beq_eq_true hh).symm (h (i,e) (by simp))
    rw [this]
    rfl

theorem updH_in : ∀ {l : List (Nat × Bool × List D)} {f g : Nat → Option (Bool × List D)} {j : Nat},(∃ x ∈ l,x.1 = j) → updH f l j = updH g l j
  | [],_,_,_,h => by obtain ⟨_,h,_⟩ := h; cases h
  | (i,e) :: l,f,g,j,h => by
    simp only [updH]
    by_cases hl : ∃ x ∈ l,x.1 = j
    · exact updH_in hl
    · have h' : ∀ x ∈ l,x.1 ≠ j := fun x hx he => hl ⟨x,hx,he⟩
      rw [updH_out h',updH_out h']
      obtain ⟨x,hx,rfl⟩ := h
      simp only [List.mem_cons] at hx
      rcases hx with rfl | hx
      · simp [Nat.beq_refl]
      · exact absurd rfl (h' x hx)

theorem updT_in : ∀ {l : List (Nat × Nat × Nat)} {f g : Nat → Option (Nat × Nat)} {j : Nat},(∃ x ∈ l,x.1 = j) → updT f l j = updT g l j
  | [],_,_,_,h => by obtain ⟨_,h,_⟩ := h; cases h
  | (i,e) :: l,f,g,j,h => by
    simp only [updT]
    by_cases hl : ∃ x ∈ l,x.1 = j
    · exact updT_in hl
    · have h' : ∀ x ∈ l,x.1 ≠ j := fun x hx he => hl ⟨x,hx,he⟩
      rw [updT_out h',updT_out h']
      obtain ⟨x,hx,rfl⟩ := h
      simp only [List.mem_cons] at hx
      rcases hx with rfl | hx
      · simp [Nat.beq_refl]
      · exact absurd rfl (h' x hx)

theorem updH_comm {l1 l2 : List (Nat × Bool × List D)} {f : Nat → Option (Bool × List D)} (h : ∀ x ∈ l1,∀ y ∈ l2,x.1 ≠ y.1) : updH (updH f l1) l2 = updH (updH f l2) l1 := by
  funext j
  by_cases h1 : ∃ x ∈ l1,x.1 = j
  · obtain ⟨x,hx,rfl⟩ := h1
    rw [updH_out (l := l2) fun y hy he => h x hx y hy he.symm]
    exact updH_in ⟨x,hx,rfl⟩
  · have h1' : ∀ x ∈ l1,x.1 ≠ j := fun x hx he => h1 ⟨x,hx,he⟩
    rw [updH_out (l := l1) (f := updH f l2) h1']
    by_cases h2 : ∃ x ∈ l2,x.1 = j
    · exact updH_in h2
    · have h2' : ∀ x ∈ l2,x.1 ≠ j := fun x hx he => h2 ⟨x,hx,he⟩
      rw [updH_out h2',updH_out h1',updH_out h2']

theorem updT_comm {l1 l2 : List (Nat × Nat × Nat)} {f : Nat → Option (Nat × Nat)} (h : ∀ x ∈ l1,∀ y ∈ l2,x.1 ≠ y.1) : updT (updT f l1) l2 = updT (updT f l2) l1 := by
  funext j
  by_cases h1 : ∃ x ∈ l1,x.1 = j
  · obtain ⟨x,hx,rfl⟩ := h1
    rw [updT_out (l := l2) fun y hy he => h x hx y hy he.symm]
    exact updT_in ⟨x,hx,rfl⟩
  · have h1' : ∀ x ∈ l1,x.1 ≠ j := fun x hx he => h1 ⟨x,hx,he⟩
    rw [updT_out (l := l1) (tk := updT f l2) h1']
    by_cases h2 : ∃ x ∈ l2,x.1 = j
    · exact updT_in h2
    · have h2' : ∀ x ∈ l2,x.1 ≠ j := fun x hx he => h2 ⟨x,hx,he⟩
      rw [updT_out h2',updT_out h1',updT_out h2']

theorem upd_comm {l : List D} {i j : Nat} {a b : D} (h : i ≠ j) : upd (upd l i a) j b = upd (upd l j b) i a := by
  induction l generalizing i j with
  | nil => rfl
  | cons d l ih =>
    cases i with
    | zero => cases j with
      | zero => exact absurd rfl h
      | succ j => rfl
    | succ i => cases j with
      | zero => rfl
      | succ j =>
        have : i ≠ j := fun e => h (e ▸ rfl)
        simp only [upd,ih this]

theorem meets_false {a b : List Nat} (h : meets a b = false) {i : Nat} (ha : i ∈ a) (hb : i ∈ b) : False := by
  unfold meets at h
  have := List.any_eq_false.1 h i ha
  have h2 := fun hh => this hh
  apply h2
  rw [List.any_eq_true]
  exact ⟨i,hb,by simp⟩

structure Apart (a b : AO) : Prop where
  wr : meets a.writes b.reads = false
  ww : meets a.writes b.writes = false
  rw : meets a.reads b.writes = false
  calls : (isCall a.op && isCall b.op) = false
  apps : (isAppend a.op && isAppend b.op) = false
  kinds : quiet a.op = true ∨ quiet b.op = true ∨ (loud a.op = false ∧ loud b.op = false)

theorem apart_spec {a b : AO} (h : apart a b = true) : Apart a b := by
  unfold apart at h
  simp only [Bool.and_eq_true,Bool.not_eq_true',Bool.or_eq_true] at h
  obtain ⟨⟨⟨⟨⟨h1,h2⟩,h3⟩,h4⟩,h5⟩,h6⟩ := h
  refine ⟨h1,h2,h3,h4,h5,?_⟩
  rcases h6 with (h6 | h6) | h6
  · exact .inl h6
  · exact .inr (.inl h6)
  · exact .inr (.inr h6)

theorem evs_setDst {dst : Option Nat} {v : D} {fr : List D} : ∀ {xs : List AX},(∀ d,dst = some d → d ∉ AX.slots xs) → evs (setDst dst v fr) xs = evs fr xs
  | [],_ => rfl
  | .c d :: xs,h => by
    simp only [evs]
    rw [evs_setDst (xs := xs) (fun d' hd => h d' hd)]
    rfl
  | .t i :: xs,h => by
    simp only [evs]
    rw [evs_setDst (xs := xs) (fun d hd hm => h d hd (by simp [AX.slots,hm]))]
    congr 1
    simp only [AX.ev]
    cases dst with
    | none => rfl
    | some d =>
      have : d ≠ i := fun e => h d rfl (by simp [AX.slots,e])
      simp only [setDst,nth_upd]
      rw [if_neg (fun hh => this hh.1)]

theorem reads_of (o : AO) : (∀ i,i ∈ AX.slots o.args → i ∈ o.reads) ∧ ∀ j w,o.guard = some (j,w) → j ∈ o.reads := by
  unfold AO.reads
  cases hg : o.guard with
  | none => exact ⟨fun i hi => hi,fun j w h => by cases h⟩
  | some jw =>
    obtain ⟨j,w⟩ := jw
    exact ⟨fun i hi => List.mem_cons_of_mem _ hi,fun j' w' h => by cases h; simp⟩

theorem sees_same (h : Apart q p) (vq : D) (uq : Upd) : evs (s.next q.dst vq uq).fr p.args = evs s.fr p.args ∧ gslot p (s.next q.dst vq uq).fr = gslot p s.fr := by
  have hw : ∀ d,q.dst = some d → d ∈ q.writes := fun d hd => by simp [AO.writes,hd]
  refine ⟨evs_setDst fun d hd hm => meets_false h.wr (hw d hd) ((reads_of p).1 d hm),?_⟩
  unfold gslot
  cases hg : p.guard with
  | none => rfl
  | some jw =>
    obtain ⟨j,w⟩ := jw
    have hj := (reads_of p).2 j w hg
    simp only [St.next]
    cases hd : q.dst with
    | none => rfl
    | some d =>
      have : d ≠ j := fun e => meets_false h.wr (hw d hd) (e ▸ hj)
      simp only [setDst,nth_upd]
      rw [if_neg (fun hh => this hh.1)]

theorem Apart.symm (h : Apart q p) : Apart p q := by
  have mc : ∀ {a b : List Nat},meets a b = false → meets b a = false := by
    intro a b h
    cases hh : meets b a with
    | false => rfl
    | true =>
      unfold meets at hh
      rw [List.any_eq_true] at hh
      obtain ⟨i,hi,h2⟩ := hh
      rw [List.any_eq_true] at h2
      obtain ⟨j,hj,h3⟩ := h2
      simp only [beq_iff_eq] at h3
      subst h3
      exact (meets_false h hj hi).elim
  refine ⟨mc h.rw,mc h.ww,mc h.wr,by rw [Bool.and_comm]; exact h.calls,by rw [Bool.and_comm]; exact h.apps,?_⟩
  rcases h.kinds with h1 | h1 | ⟨h1,h2⟩
  · exact .inr (.inl h1)
  · exact .inl h1
  · exact .inr (.inr ⟨h2,h1⟩)

theorem not_in_range {lo hi j : Nat} (h : (Nat.ble lo j && Nat.blt j hi) = false) (h1 : lo ≤ j) (h2 : j < hi) : False := in_range h ⟨h1,h2⟩

theorem alike_of (h : Apart q p) (hax : p.args.all axOk = true) (tq : Tidy q.id (q.id + idsOf q.op) s) {u : Upd} (hk : Keys q.op q.id s.tk u) : Alike' p.op (evs s.fr p.args) s.hp (updH s.hp u.h) s.tk (updT s.tk u.t) := by
  rcases h.kinds with h1 | h1 | ⟨h1,h2⟩
  · rw [hk.q h1]
    exact .inr (.inl ⟨rfl,rfl⟩)
  · exact .inl h1
  · refine .inr (.inr ⟨h2,fun d hm i hi => ?_,fun happ i z n g hm => ?_⟩)
    · have hn := idOf_names hi (evs_tidy tq hax _ hm).1
      rw [updH_out]
      rintro x hx rfl
      have := hk.h h1 x hx
      exact not_in_range hn this.1 this.2
    · have hn := (evs_tidy tq hax _ hm).1
      rw [updT_out]
      rintro x hx rfl
      rcases hk.t x hx with h3 | ⟨h3,_⟩
      · exact not_in_range hn h3.1 h3.2
      · have := h.apps
        rw [h3,happ] at this
        cases this

theorem Alike'.symm {op : AOp} {args : List D} {hp hp' : Nat → Option (Bool × List D)} {tk tk' : Nat → Option (Nat × Nat)} (h : Alike' op args hp hp' tk tk') : Alike' op args hp' hp tk' tk := by
  rcases h with h | ⟨h1,h2⟩ | ⟨h1,h2,h3⟩
  · exact .inl h
  · exact .inr (.inl ⟨h1.symm,h2.symm⟩)
  · exact .inr (.inr ⟨h1,fun d hm i hi => (h2 d hm i hi).symm,fun ha i z n g hm => (h3 ha i z n g hm).symm⟩)

theorem next_comm (h : Apart q p) (tq : Tidy q.id (q.id + idsOf q.op) s) (tp : Tidy p.id (p.id + idsOf p.op) s) (hdis : q.id + idsOf q.op ≤ p.id ∨ p.id + idsOf p.op ≤ q.id) {vq vp : D} {uq up : Upd} (kq : Keys q.op q.id s.tk uq) (kp : Keys p.op p.id s.tk up) :
    (s.next q.dst vq uq).next p.dst vp up = (s.next p.dst vp up).next q.dst vq uq := by
  unfold St.next
  simp only [St.mk.injEq]
  refine ⟨?_,?_,?_⟩
  · cases hq : q.dst with
    | none => rfl
    | some d =>
      cases hp : p.dst with
      | none => rfl
      | some e =>
        have : d ≠ e := fun he => meets_false h.ww (i := d) (by simp [AO.writes,hq]) (by simp [AO.writes,hp,he])
        exact upd_comm this
  · rcases h.kinds with h1 | h1 | ⟨h1,h2⟩
    · rw [kq.q h1]; rfl
    · rw [kp.q h1]; rfl
    · refine updH_comm fun x hx y hy he => ?_
      have e1 := kq.h h1 x hx
      have e2 := kp.h h2 y hy
      omega
  · refine updT_comm fun x hx y hy he => ?_
    rcases kq.t x hx with e1 | ⟨e1,e2⟩
    · rcases kp.t y hy with e3 | ⟨e3,e4⟩
      · omega
      · cases hx' : s.tk y.1 with
        | none => exact e4 hx'
        | some e =>
          have := tq.tk _ _ hx'
          omega
    · rcases kp.t y hy with e3 | ⟨e3,e4⟩
      · cases hx' : s.tk x.1 with
        | none => exact e2 hx'
        | some e =>
          have := tp.tk _ _ hx'
          omega
      · have := h.apps
        rw [e1,e3] at this
        cases this

theorem swap (hE : EnvMF E) (h : Apart q p) (okq : opOk q.op = true) (axq : q.args.all axOk = true) (okp : opOk p.op = true) (axp : p.args.all axOk = true) (tq : Tidy q.id (q.id + idsOf q.op) s) (tp : Tidy p.id (p.id + idsOf p.op) s)
    (hdis : q.id + idsOf q.op ≤ p.id ∨ p.id + idsOf p.op ≤ q.id) {K : St → Prop} (hh : gOp E q s (fun s1 => gOp E p s1 K)) : gOp E p s (fun s1 => gOp E q s1 K) := by
  rw [gOp_run1] at hh
  have h1 := run1_after hE okq axq hh
  have h2 : run1 E q s.hp s.tk (evs s.fr q.args) (gslot q s.fr) (fun vq uq => run1 E p s.hp s.tk (evs s.fr p.args) (gslot p s.fr) (fun vp up => (K ((s.next q.dst vq uq).next p.dst vp up) ∧ After p s vp up) ∧ After q s vq uq)) := by
    refine run1_mono hE (fun vq uq hk => ?_) h1
    obtain ⟨hk,ha⟩ := hk
    rw [gOp_run1] at hk
    obtain ⟨e1,e2⟩ := sees_same (s := s) h vq uq
    rw [e1,e2] at hk
    have hk := run1_alike ((alike_of h axp tq ha.1).symm) hk
    exact run1_mono hE (fun vp up h3 => ⟨h3,ha⟩) (run1_after hE okp axp hk)
  have h3 := run1_after hE okp axp (exchange hE h.calls h2)
  rw [gOp_run1]
  refine run1_mono hE (fun vp up hk => ?_) h3
  obtain ⟨hk,ha⟩ := hk
  rw [gOp_run1]
  obtain ⟨e1,e2⟩ := sees_same (s := s) h.symm vp up
  rw [e1,e2]
  refine run1_alike (alike_of h.symm axq tp ha.1) (run1_mono hE (fun vq uq h4 => ?_) hk)
  rw [← next_comm h tq tp hdis h4.2.1 h4.1.2.1]
  exact h4.1.1

theorem gOp_mono (hE : EnvMF E) {K K' : St → Prop} (h : ∀ s',K s' → K' s') (hk : gOp E o s K) : gOp E o s K' := by
  rw [gOp_run1] at hk ⊢
  exact run1_mono hE (fun v u h1 => h _ h1) hk

theorem gOp_tidy (hE : EnvMF E) (hok : opOk o.op = true) (hax : o.args.all axOk = true) {K : St → Prop} (hk : gOp E o s K) : gOp E o s (fun s' => K s' ∧ ∀ lo hi,Tidy lo hi s → (o.id + idsOf o.op ≤ lo ∨ hi ≤ o.id) → Tidy lo hi s') := by
  rw [gOp_run1] at hk ⊢
  exact run1_mono hE (fun v u h1 => ⟨h1.1,h1.2.2⟩) (run1_after hE hok hax hk)

theorem aops_mono (hE : EnvMF E) : ∀ {l : List AO} {s : St} {K K' : St → Prop},(∀ s',K s' → K' s') → aops E l s K → aops E l s K'
  | [],_,_,_,h,hk => h _ hk
  | o :: l,s,K,K',h,hk => gOp_mono hE (fun s' h1 => aops_mono hE h h1) hk

def Dis (a b : AO) : Prop := a.id + idsOf a.op ≤ b.id ∨ b.id + idsOf b.op ≤ a.id

theorem bring (hE : EnvMF E) (okp : opOk p.op = true) (axp : p.args.all axOk = true) : ∀ {l1 l2 : List AO} {s : St} {K : St → Prop},(∀ q ∈ l1,Apart q p ∧ opOk q.op = true ∧ q.args.all axOk = true ∧ Dis q p) → l1.Pairwise Dis → Tidy p.id (p.id + idsOf p.op) s →
    (∀ q ∈ l1,Tidy q.id (q.id + idsOf q.op) s) → aops E (l1 ++ p :: l2) s K → gOp E p s (fun s1 => aops E (l1 ++ l2) s1 K)
  | [],l2,s,K,_,_,_,_,hk => hk
  | q :: l1,l2,s,K,h,hd,tp,tq,hk => by
    obtain ⟨h1,h2,h3,h4⟩ := h q (by simp)
    have hd' := List.pairwise_cons.1 hd
    have e1 : gOp E q s (fun s1 => gOp E p s1 (fun s2 => aops E (l1 ++ l2) s2 K)) := by
      refine gOp_mono hE (fun s1 hs => ?_) (gOp_tidy hE h2 h3 hk)
      obtain ⟨hs1,hs2⟩ := hs
      refine bring hE okp axp (fun q' hq' => h q' (List.mem_cons_of_mem _ hq')) hd'.2 (hs2 _ _ tp h4) (fun q' hq' => ?_) hs1
      exact hs2 _ _ (tq q' (List.mem_cons_of_mem _ hq')) (hd'.1 q' hq')
    exact swap hE h1 h2 h3 okp axp (tq q (by simp)) tp h4 e1

end
end Go.Abs

/- Regions. -/
namespace Go.Abs
open Go

section
variable {P : Program} {F : Nat → FuncId} {B np : Nat} {w0 w w' : World} {ext : List Nat} {σ0 : Sg} {G G' : Gh} {s : St} {a : Act} {ft : FT} {lo hi : Nat} {E : Env}

theorem EnvOk.mf (h : EnvOk P F E) : EnvMF E := fun j C hj => ⟨(h j C hj).mono,(h j C hj).feas⟩

structure AOR (P : Program) (ft : FT) (np : Nat) (ops : Array Oper) (o : Oper) (ao : AO) : Prop where
  tr : trOp P ft np o = some (ao.op,ao.args)
  dst : ao.dst = o.dst
  guard : trG ops o.guard = some ao.guard
  ok : opOk ao.op = true
  ax : ao.args.all axOk = true

theorem trAOs_spec {ops : Array Oper} : ∀ {l : List Oper} {at_ n : Nat} {as : List AO},trAOs P ft np ops l at_ = some (as,n) → l.length = as.length ∧ at_ ≤ n ∧
    (∀ (i : Nat) (o : Oper) (ao : AO),l[i]? = some o → as[i]? = some ao → AOR P ft np ops o ao ∧ at_ ≤ ao.id ∧ ao.id + idsOf ao.op ≤ n) ∧ as.Pairwise fun x y => x.id + idsOf x.op ≤ y.id
  | [],at_,n,as,h => by
    simp only [trAOs,Option.some.injEq,Prod.mk.injEq] at h
    obtain ⟨rfl,rfl⟩ := h
    exact ⟨rfl,Nat.le_refl _,fun i o ao h => by simp at h,List.Pairwise.nil⟩
  | o :: l,at_,n,as,h => by
    simp only [trAOs] at h
    split at h
    · rename_i ap xs g h1 h2
      cases hb : (opOk ap && xs.all axOk) with
      | false => rw [hb] at h; cases h
      | true =>
        rw [hb] at h
        simp only [cond_true] at h
        split at h
        · rename_i as' n' h3
          cases h
          obtain ⟨e1,e2,e3,e4⟩ := trAOs_spec h3
          simp only [Bool.and_eq_true] at hb
          refine ⟨by simp [e1],by omega,fun i o' ao hi ha => ?_,List.pairwise_cons.2 ⟨fun x hx => ?_,e4⟩⟩
          · cases i with
            | zero =>
              simp only [List.getElem?_cons_zero,Option.some.injEq] at hi ha
              subst hi ha
              exact ⟨⟨h1,rfl,h2,hb.1,hb.2⟩,Nat.le_refl _,e2⟩
            | succ i =>
              obtain ⟨e5,e6,e7⟩ := e3 i o' ao (by simpa using hi) (by simpa using ha)
              exact ⟨e5,by omega,e7⟩
          · obtain ⟨j,hj,rfl⟩ := List.mem_iff_getElem.1 hx
            have hj' : j < l.length := by omega
            exact (e3 j l[j] as'[j] (List.getElem?_eq_getElem hj') (List.getElem?_eq_getElem hj)).2.1
        · cases h
    · cases h

theorem g_wp (hE : EnvOk P F E) (hft : ∀ f j,ag ft f = some j → F j = f) (r : Rel F B np w0 ext σ0 G s a w) {ops : Array Oper} {o : Oper} {ao : AO} (hao : AOR P ft np ops o ao) (hnp : np ≤ ao.id) (hcl : Clean ao.id (ao.id + idsOf ao.op) s) {K : St → Prop} (h : gOp E ao s K)
    {next : Act → World → Prop} {Q : Exit → Act → World → Prop} (hn : ∀ s' a' w' G',K s' → Rel F B np w0 ext σ0 G' s' a' w' → (∀ lo hi,Clean lo hi s → (ao.id + idsOf ao.op ≤ lo ∨ hi ≤ ao.id) → Clean lo hi s') → next a' w') :
    if Region.wanted o (yielded ops a.tmps) then o.wp P a w next Q else next (a.put o.dst undef) w := by
  rw [gOp_run1] at h
  have run : step E ao.op ao.id s.hp s.tk (evs s.fr ao.args) (fun v u => K (s.next ao.dst v u)) → o.wp P a w next Q := fun hs =>
    step_wp hE hft r hao.tr hao.ok hao.ax hnp hcl hs fun v u v' G' w' hk r' hc => hn _ _ w' G' (hao.dst ▸ hk) r' hc
  unfold run1 at h
  have hg := hao.guard
  unfold trG at hg
  cases hog : o.guard with
  | none =>
    rw [hog] at hg
    simp only [Option.some.injEq] at hg
    rw [← hg] at h
    have : Region.wanted o (yielded ops a.tmps) = true := by simp [Region.wanted,hog]
    rw [if_pos this]
    exact run h
  | some jw =>
    obtain ⟨j,wt⟩ := jw
    rw [hog] at hg
    simp only at hg
    cases hd : (ops[j]?).bind (·.dst) with
    | none => rw [hd] at hg; cases hg
    | some d =>
      rw [hd] at hg
      simp only [Option.some.injEq] at hg
      rw [← hg] at h
      simp only [gslot,← hg] at h
      have skip : K (s.next o.dst (.tup []) Upd.none) → next (a.put o.dst undef) w := fun h => by
        have r' := r.put hnp hcl (Keeps.refl _ _ G s.tk) r.mem (Rd.tup #[] [] rfl fun j hj => by simp at hj) o.dst
        refine hn _ _ w G h r' fun lo hi hc _ => ?_
        exact hc.after (v := .tup []) rfl (fun x hx => by simp [Upd.none] at hx) (fun x hx => by simp [Upd.none] at hx) o.dst
      rw [hao.dst] at h
      cases hb : nth s.fr d .dead with
      | bool b =>
        rw [hb] at h
        simp only [gw] at h
        have hdl : d < s.fr.length := by
          rcases Nat.lt_or_ge d s.fr.length with h1 | h1
          · exact h1
          · rw [nth_ge s.fr _ h1] at hb; cases hb
        have hr := r.slots d hdl
        rw [hb] at hr
        have hv := hr.bool_inv
        have hy : yielded ops a.tmps j = some b := by
          have hsz : d < a.tmps.size := by rw [r.size]; exact hdl
          unfold yielded
          rw [hd]
          have : a.tmps[d]? = some (.bool b) := by
            rw [Array.getElem?_eq_getElem hsz]
            rw [Array.getD_eq_getD_getElem?,Array.getElem?_eq_getElem hsz] at hv
            simpa using hv
          simp [this]
        by_cases hw : b = wt
        · have e : (b == wt) = true := by rw [hw]; exact beq_self_eq_true _
          rw [e] at h
          have : Region.wanted o (yielded ops a.tmps) = true := by simp [Region.wanted,hog,hy,hw]
          rw [if_pos this]
          exact run (hao.dst ▸ h)
        · have e : (b == wt) = false := beq_false_of_ne hw
          rw [e] at h
          have : ¬ (Region.wanted o (yielded ops a.tmps) = true) := by simp [Region.wanted,hog,hy,hw]
          rw [if_neg this]
          exact skip h
      | tup l =>
        cases l with
        | cons x l => rw [hb] at h; exact h.elim
        | nil =>
          rw [hb] at h
          simp only [gw] at h
          have hdl : d < s.fr.length := by
            rcases Nat.lt_or_ge d s.fr.length with h1 | h1
            · exact h1
            · rw [nth_ge s.fr _ h1] at hb; cases hb
          have hr := r.slots d hdl
          rw [hb] at hr
          have hv : a.tmps.getD d undef = .tuple #[] := by
            generalize a.tmps.getD d undef = v at hr
            cases hr with
            | any hr => cases hr with
              | cell hr => cases hr with
                | pure hr _ => cases hr
            | tup vs l hs _ =>
              have : vs = #[] := Array.eq_empty_of_size_eq_zero (by simpa using hs)
              rw [this]
          have hy : yielded ops a.tmps j = none := by
            have hsz : d < a.tmps.size := by rw [r.size]; exact hdl
            unfold yielded
            rw [hd]
            have : a.tmps[d]? = some (.tuple #[]) := by
              rw [Array.getElem?_eq_getElem hsz]
              rw [Array.getD_eq_getD_getElem?,Array.getElem?_eq_getElem hsz] at hv
              simpa using hv
            simp [this]
          have : ¬ (Region.wanted o (yielded ops a.tmps) = true) := by simp [Region.wanted,hog,hy]
          rw [if_neg this]
          exact skip h
      | _ => rw [hb] at h; exact h.elim

theorem list_wp (hE : EnvOk P F E) (hft : ∀ f j,ag ft f = some j → F j = f) {ops : Array Oper} {A : Nat → AO} (hA : ∀ (i : Nat) (o : Oper),ops[i]? = some o → AOR P ft np ops o (A i)) {K : St → Prop} {Q : Exit → Act → World → Prop} :
    ∀ (js : List Nat) {s : St} {a : Act} {w : World} {G : Gh},(∀ j ∈ js,j < ops.size) → (∀ j ∈ js,np ≤ (A j).id) → (js.map A).Pairwise Dis → Rel F B np w0 ext σ0 G s a w → (∀ j ∈ js,Clean (A j).id ((A j).id + idsOf (A j).op) s) → aops E (js.map A) s K →
    (∀ s' a' w' G',K s' → Rel F B np w0 ext σ0 G' s' a' w' → (∀ lo hi,Clean lo hi s → (∀ j ∈ js,(A j).id + idsOf (A j).op ≤ lo ∨ hi ≤ (A j).id) → Clean lo hi s') → Q .normal a' w') → wpOps P ops Q js a w
  | [],s,a,w,G,_,_,_,r,_,hk,hn => hn s a w G hk r fun lo hi hc _ => hc
  | j :: js,s,a,w,G,hlt,hnp,hd,r,hcl,hk,hn => by
    have hj := hlt j (by simp)
    have ho : ops[j]? = some ops[j] := Array.getElem?_eq_getElem hj
    rw [List.map_cons] at hd
    have hd' := List.pairwise_cons.1 hd
    have := g_wp (Q := Q) (next := wpOps P ops Q js) hE hft r (hA j _ ho) (hnp j (by simp)) (hcl j (by simp)) hk fun s' a' w' G' hk' r' hc =>
      list_wp hE hft hA js (fun i hi => hlt i (List.mem_cons_of_mem _ hi)) (fun i hi => hnp i (List.mem_cons_of_mem _ hi)) hd'.2 r' (fun i hi => hc _ _ (hcl i (List.mem_cons_of_mem _ hi)) (hd'.1 _ (List.mem_map_of_mem hi))) hk'
        fun s2 a2 w2 G2 hk2 r2 hc2 => hn s2 a2 w2 G2 hk2 r2 fun lo hi h0 hdis => hc2 lo hi (hc lo hi h0 (hdis j (by simp))) fun i hi => hdis i (List.mem_cons_of_mem _ hi)
    simp only [wpOps,ho]
    split
    · rename_i hw
      rw [if_pos hw] at this
      exact .inl this
    · rename_i hw
      rw [if_neg hw] at this
      exact this

end
end Go.Abs

/- Regions whose order is open. -/
namespace Go.Abs
open Go

section
variable {E : Env} {ops : Array Oper} {A : Nat → AO} {s : St} {K : St → Prop}

def isListed (listed : Array Bool) (i : Nat) : Bool := listed.getD i false

def rem (n : Nat) (listed : Array Bool) : List Nat := (List.range n).filter fun i => !isListed listed i

def Closed (ops : Array Oper) (listed : Array Bool) : Prop := ∀ (j : Nat) (o : Oper),ops[j]? = some o → isListed listed j = true → ∀ e ∈ o.after.toList,Region.binds .any e = true → isListed listed e.on = true

theorem listed_set {listed : Array Bool} {i j : Nat} (hi : i < listed.size) : isListed (listed.setIfInBounds i true) j = (j == i || isListed listed j) := by
  unfold isListed
  simp only [Array.getD_eq_getD_getElem?]
  by_cases h : i = j
  · subst h
    simp [hi]
  · have : (j == i) = false := by simp; exact fun h' => h h'.symm
    rw [Array.getElem?_setIfInBounds_ne h,this]
    rfl

theorem mem_rem {n : Nat} {listed : Array Bool} {i : Nat} : i ∈ rem n listed ↔ i < n ∧ isListed listed i = false := by
  simp [rem,List.mem_filter]

theorem rem_sorted (n : Nat) (listed : Array Bool) : (rem n listed).Pairwise (· < ·) := List.Pairwise.filter _ (List.pairwise_lt_range)

theorem rem_set {n : Nat} {listed : Array Bool} {i : Nat} (hi : i < listed.size) : rem n (listed.setIfInBounds i true) = (rem n listed).filter (· != i) := by
  unfold rem
  rw [List.filter_filter]
  congr 1
  funext j
  rw [listed_set hi]
  cases hji : (j == i) <;> cases hl : isListed listed j <;> simp_all [bne]

theorem filter_split {l1 l2 : List Nat} {i : Nat} (h : (l1 ++ i :: l2).Pairwise (· < ·)) : (l1 ++ i :: l2).filter (· != i) = l1 ++ l2 ∧ ∀ q ∈ l1,q < i := by
  rw [List.pairwise_append] at h
  obtain ⟨_,h2,h3⟩ := h
  have h4 := List.pairwise_cons.1 h2
  have e1 : ∀ q ∈ l1,q < i := fun q hq => h3 q hq i (by simp)
  refine ⟨?_,e1⟩
  rw [List.filter_append,List.filter_cons]
  have f1 : l1.filter (· != i) = l1 := List.filter_eq_self.2 fun q hq => by have := e1 q hq; simp; omega
  have f2 : l2.filter (· != i) = l2 := List.filter_eq_self.2 fun q hq => by have := h4.1 q hq; simp; omega
  rw [f1,f2]
  simp

theorem reach_listed {listed : Array Bool} (hc : Closed ops listed) : ∀ (f i q : Nat) (o : Oper),ops[i]? = some o → (∀ e ∈ o.after.toList,Region.binds .any e = true → isListed listed e.on = true) → (∀ j,isListed listed j = true → j < ops.size) → reach ops f i q = true → isListed listed q = true
  | 0,i,q,o,_,_,_,h => by simp [reach] at h
  | f + 1,i,q,o,ho,ha,hb,h => by
    simp only [reach,ho,List.any_eq_true,Bool.and_eq_true,Bool.or_eq_true] at h
    obtain ⟨e,he,h1,h2⟩ := h
    have h3 := ha e he h1
    rcases h2 with h2 | ⟨_,h2⟩
    · have : e.on = q := by simpa using h2
      rw [← this]
      exact h3
    · have hlt := hb _ h3
      exact reach_listed hc f e.on q ops[e.on] (Array.getElem?_eq_getElem hlt) (hc e.on _ (Array.getElem?_eq_getElem hlt) h3) hb h2

theorem backward_spec : ∀ {l : List Oper} {i : Nat},backward l i = true → ∀ (j : Nat) (o : Oper),l[j]? = some o → ∀ e ∈ o.after.toList,Region.binds .any e = true → e.on < i + j
  | [],_,_,j,o,h => by simp at h
  | o' :: l,i,hb,j,o,h => by
    simp only [backward,Bool.and_eq_true,List.all_eq_true] at hb
    cases j with
    | zero =>
      simp only [List.getElem?_cons_zero,Option.some.injEq] at h
      subst h
      intro e he hbi
      have := hb.1 e he
      rw [hbi] at this
      simpa using this
    | succ j =>
      intro e he hbi
      have := backward_spec hb.2 j o (by simpa using h) e he hbi
      omega

theorem ready_spec {listed : Array Bool} (hsz : listed.size = ops.size) {i : Nat} : i ∈ Region.ready .any ops listed ↔ i ∈ rem ops.size listed ∧ ∃ o,ops[i]? = some o ∧ ∀ e ∈ o.after.toList,Region.binds .any e = true → isListed listed e.on = true := by
  unfold Region.ready
  rw [List.mem_filter,mem_rem,List.mem_range]
  constructor
  · rintro ⟨h1,h2⟩
    have ho : ops[i]? = some ops[i] := Array.getElem?_eq_getElem h1
    rw [ho] at h2
    simp only [Option.map_some,Option.getD_some,Bool.and_eq_true,Bool.not_eq_true'] at h2
    have hl : listed[i]? = some listed[i] := Array.getElem?_eq_getElem (by omega)
    refine ⟨⟨h1,?_⟩,ops[i],ho,fun e he hb => ?_⟩
    · have := h2.1
      simp only [Array.getD_eq_getD_getElem?,hl,Option.getD_some] at this
      simp only [isListed,Array.getD_eq_getD_getElem?,hl,Option.getD_some]
      exact this
    · have h3 := Array.all_eq_true_iff_forall_mem.1 h2.2 e (Array.mem_toList_iff.1 he)
      rw [hb] at h3
      simpa [isListed] using h3
  · rintro ⟨⟨h1,h2⟩,o,ho,h3⟩
    have hl : listed[i]? = some listed[i] := Array.getElem?_eq_getElem (by omega)
    refine ⟨h1,?_⟩
    rw [ho]
    simp only [Option.map_some,Option.getD_some,Bool.and_eq_true,Bool.not_eq_true']
    refine ⟨?_,Array.all_eq_true_iff_forall_mem.2 fun e he => ?_⟩
    · simp only [isListed,Array.getD_eq_getD_getElem?,hl,Option.getD_some] at h2
      simp only [Array.getD_eq_getD_getElem?,hl,Option.getD_some]
      exact h2
    · cases hb : Region.binds .any e with
      | false => rfl
      | true => simpa [isListed] using h3 e (Array.mem_toList_iff.2 he) hb

theorem go_step (fuel t : Nat) (listed : Array Bool) : Region.linearise.go .any ops (fuel + 1) t listed [] = match (Region.ready .any ops listed)[t % (Region.ready .any ops listed).length]? with
    | some i => i :: Region.linearise.go .any ops fuel (t / (Region.ready .any ops listed).length) (listed.setIfInBounds i true) []
    | none => [] := by
  simp only [Region.linearise.go]
  change (match (Region.ready .any ops listed)[t % (Region.ready .any ops listed).length]? with
      | some i => Region.linearise.go .any ops fuel (t / (Region.ready .any ops listed).length) (listed.setIfInBounds i true) [i]
      | none => [].reverse) = _
  split
  · rw [linearise_go_acc]
    simp
  · rfl

theorem pick_none {l : List Nat} {t : Nat} (h : l[t % l.length]? = none) : l = [] := by
  cases l with
  | nil => rfl
  | cons x xs =>
    have hlt : t % (x :: xs).length < (x :: xs).length := Nat.mod_lt _ (by simp)
    rw [List.getElem?_eq_getElem hlt] at h
    cases h

theorem ready_some {listed : Array Bool} (hsz : listed.size = ops.size) (hb : backward ops.toList 0 = true) (h : Region.ready .any ops listed = []) : rem ops.size listed = [] := by
  cases hr : rem ops.size listed with
  | nil => rfl
  | cons m l =>
    have hm : m ∈ rem ops.size listed := by rw [hr]; simp
    have hlt := (mem_rem.1 hm).1
    have ho : ops[m]? = some ops[m] := Array.getElem?_eq_getElem hlt
    have : m ∈ Region.ready .any ops listed := (ready_spec hsz).2 ⟨hm,ops[m],ho,fun e he hbi => by
      have h1 := backward_spec hb m ops[m] (by rw [Array.getElem?_toList]; exact ho) e he hbi
      cases hl : isListed listed e.on with
      | true => rfl
      | false =>
        have h2 : e.on ∈ rem ops.size listed := mem_rem.2 ⟨by omega,hl⟩
        have h3 := rem_sorted ops.size listed
        rw [hr] at h2 h3
        simp only [List.mem_cons] at h2
        rcases h2 with h2 | h2
        · omega
        · have := (List.pairwise_cons.1 h3).1 _ h2
          omega⟩
    rw [h] at this
    cases this

theorem lin_mem : ∀ (fuel t : Nat) (listed : Array Bool),listed.size = ops.size → (Region.linearise.go .any ops fuel t listed []).Nodup ∧ ∀ j ∈ Region.linearise.go .any ops fuel t listed [],j ∈ rem ops.size listed
  | 0,t,listed,_ => by simp [Region.linearise.go]
  | fuel + 1,t,listed,hsz => by
    rw [go_step]
    split
    · rename_i i hi
      have hm := ((ready_spec hsz).1 (List.mem_of_getElem? hi)).1
      have hlt := (mem_rem.1 hm).1
      obtain ⟨h1,h2⟩ := lin_mem fuel (t / (Region.ready .any ops listed).length) (listed.setIfInBounds i true) (by simp [hsz])
      have h3 : ∀ j,j ∈ rem ops.size (listed.setIfInBounds i true) → j ∈ rem ops.size listed ∧ j ≠ i := fun j hj => by
        rw [rem_set (by omega),List.mem_filter] at hj
        exact ⟨hj.1,by simpa using hj.2⟩
      refine ⟨List.nodup_cons.2 ⟨fun h => (h3 i (h2 i h)).2 rfl,h1⟩,fun j hj => ?_⟩
      simp only [List.mem_cons] at hj
      rcases hj with rfl | hj
      · exact hm
      · exact (h3 j (h2 j hj)).1
    · simp

theorem lin_aops (hE : EnvMF E) (hb : backward ops.toList 0 = true) (hap : ∀ i j,i < j → j < ops.size → Apart (A i) (A j) ∨ reach ops ops.size j i = true) (hdis : ∀ i j,i < j → j < ops.size → Dis (A i) (A j))
    (hok : ∀ i,i < ops.size → opOk (A i).op = true ∧ (A i).args.all axOk = true) : ∀ (fuel t : Nat) (listed : Array Bool) (s : St),listed.size = ops.size → Closed ops listed → (rem ops.size listed).length ≤ fuel →
    (∀ j ∈ rem ops.size listed,Tidy (A j).id ((A j).id + idsOf (A j).op) s) → aops E ((rem ops.size listed).map A) s K → aops E ((Region.linearise.go .any ops fuel t listed []).map A) s K
  | 0,t,listed,s,hsz,hc,hf,ht,hk => by
    have : rem ops.size listed = [] := List.length_eq_zero_iff.1 (by omega)
    rw [this] at hk
    simpa [Region.linearise.go] using hk
  | fuel + 1,t,listed,s,hsz,hc,hf,ht,hk => by
    rw [go_step]
    split
    · rename_i i hi
      obtain ⟨hm,o,ho,hafter⟩ := (ready_spec hsz).1 (List.mem_of_getElem? hi)
      have hlt := (mem_rem.1 hm).1
      obtain ⟨l1,l2,hL⟩ := List.append_of_mem hm
      have hs := rem_sorted ops.size listed
      rw [hL] at hs
      obtain ⟨hfil,hl1⟩ := filter_split hs
      have hset : rem ops.size (listed.setIfInBounds i true) = l1 ++ l2 := by rw [rem_set (by omega),hL,hfil]
      have hbd : ∀ j,isListed listed j = true → j < ops.size := fun j hj => by
        rcases Nat.lt_or_ge j ops.size with h | h
        · exact h
        · have : listed[j]? = none := Array.getElem?_eq_none (by omega)
          simp [isListed,this] at hj
      have hmem1 : ∀ q ∈ l1,q ∈ rem ops.size listed := fun q hq => by rw [hL]; simp [hq]
      have hmem2 : ∀ q ∈ l1 ++ l2,q ∈ rem ops.size listed := fun q hq => by
        rw [hL]
        simp only [List.mem_append,List.mem_cons] at hq ⊢
        rcases hq with hq | hq
        · exact .inl hq
        · exact .inr (.inr hq)
      have hne : ∀ q ∈ l1 ++ l2,q ≠ i := fun q hq => by
        have : q ∈ rem ops.size (listed.setIfInBounds i true) := by rw [hset]; exact hq
        rw [rem_set (by omega),List.mem_filter] at this
        simpa using this.2
      have hpair : (l1 ++ l2).Pairwise (· < ·) := by
        rw [← hset]
        exact rem_sorted _ _
      have hD : ∀ q j,q ≠ j → q < ops.size → j < ops.size → Dis (A q) (A j) := fun q j h1 h2 h3 => by
        rcases Nat.lt_or_ge q j with h | h
        · exact hdis q j h h3
        · have := hdis j q (by omega) h2
          exact this.symm
      rw [hL,List.map_append,List.map_cons] at hk
      have hbr := bring (p := A i) hE (hok i hlt).1 (hok i hlt).2 (l1 := l1.map A) (l2 := l2.map A) (s := s) (K := K) (fun q hq => by
        obtain ⟨j,hj,rfl⟩ := List.mem_map.1 hq
        have hjm := mem_rem.1 (hmem1 j hj)
        refine ⟨?_,(hok j hjm.1).1,(hok j hjm.1).2,hD j i (fun h => by have := hl1 j hj; omega) hjm.1 hlt⟩
        rcases hap j i (hl1 j hj) hlt with h | h
        · exact h
        · have := reach_listed hc _ i j o ho hafter hbd h
          rw [hjm.2] at this
          cases this) (by
        refine List.pairwise_map.2 ((List.pairwise_append.1 hpair).1.imp_of_mem fun ha hb' hab => ?_)
        exact hD _ _ (by omega) (mem_rem.1 (hmem1 _ ha)).1 (mem_rem.1 (hmem1 _ hb')).1) (ht i hm) (fun q hq => by
        obtain ⟨j,hj,rfl⟩ := List.mem_map.1 hq
        exact ht j (hmem1 j hj)) hk
      rw [List.map_cons]
      refine gOp_mono hE (fun s1 h1 => ?_) (gOp_tidy hE (hok i hlt).1 (hok i hlt).2 hbr)
      obtain ⟨h1,h2⟩ := h1
      refine lin_aops hE hb hap hdis hok fuel _ (listed.setIfInBounds i true) s1 (by simp [hsz]) (fun j o' ho' hj e he hbi => ?_) ?_ (fun j hj => ?_) ?_
      · rw [listed_set (by omega)] at hj ⊢
        simp only [Bool.or_eq_true,beq_iff_eq] at hj ⊢
        rcases hj with rfl | hj
        · rw [ho] at ho'
          cases ho'
          exact .inr (hafter e he hbi)
        · exact .inr (hc j o' ho' hj e he hbi)
      · rw [hset]
        rw [hL] at hf
        simp only [List.length_append,List.length_cons] at hf ⊢
        omega
      · rw [hset] at hj
        exact h2 _ _ (ht j (hmem2 j hj)) (hD i j (fun h => hne j hj h.symm) hlt (mem_rem.1 (hmem2 j hj)).1)
      · rw [hset,List.map_append]
        exact h1
    · rename_i hn
      have := ready_some hsz hb (pick_none hn)
      rw [this] at hk
      exact hk

end
end Go.Abs

/- Code. -/
namespace Go.Abs
open Go

section
variable {P : Program} {F : Nat → FuncId} {B np : Nat} {w0 w w' : World} {ext : List Nat} {σ0 : Sg} {G G' : Gh} {s : St} {a : Act} {ft : FT} {lo hi : Nat} {E : Env} {hp hp' : Nat → Option (Bool × List D)} {tk tk' : Nat → Option (Nat × Nat)}

theorem names_none (d : D) : d.names 0 0 = false := by
  cases d with
  | agg l => exact names_of_nth fun j _ => names1_none _
  | tup l => exact names_of_nth fun j _ => names1_none _
  | slice t z n g => exact names1_none (.slice t z n g)
  | ptr j o => exact names1_none (.ptr j o)
  | _ => rfl

theorem Mem.restrict (m : Mem F B np w0 ext σ0 G hp tk w) (h1 : ∀ i e,hp' i = some e → hp i = some e) (h2 : ∀ i e,tk' i = some e → tk i = some e) : Mem F B np w0 ext σ0 G hp' tk' w := by
  have k : Keeps 0 0 G G tk tk' := ⟨SgLe.refl _,fun _ _ => rfl,fun i z m' _ h => ⟨z,m',h2 i _ h,Nat.le_refl _,fun _ => rfl⟩⟩
  have ho : ∀ b j,Owns G hp' tk' b j → Owns G hp tk b j := by
    intro b j h
    cases j with
    | inl id => obtain ⟨cs,e1,e2⟩ := h; exact ⟨cs,h1 _ _ e1,e2⟩
    | inr i => obtain ⟨z,n,c,e1,e2,e3⟩ := h; exact ⟨z,n,c,h2 _ _ e1,e2,e3⟩
  refine ⟨m.stab,m.old,m.os,m.tape,m.output,m.base,m.keep,fun id cs h => ?_,fun id cs h => m.froz id cs (h1 _ _ h),fun i z n h => m.toks i z n (h2 _ _ h),fun b j j' h h' => m.own1 b j j' (ho b j h) (ho b j' h'),fun b j h => m.own2 b j (ho b j h)⟩
  obtain ⟨o1,e2,e4,e5⟩ := m.vars id cs (h1 _ _ h)
  exact ⟨o1,e2,e4.imp fun j v hj hr => hr.keep k (names1_none _),e5⟩

theorem ag_keepH : ∀ {l : List Nat} {i : Nat} {e : Bool × List D},ag (keepH hp l) i = some e → hp i = some e
  | [],i,e,h => by simp [keepH,ag] at h
  | j :: l,i,e,h => by
    simp only [keepH] at h
    cases hj : hp j with
    | none => rw [hj] at h; exact ag_keepH h
    | some x =>
      rw [hj] at h
      simp only [ag] at h
      cases hb : Nat.beq i j with
      | true =>
        rw [hb] at h
        have := Nat.eq_of_beq_eq_true hb
        subst this
        rw [hj]
        exact h
      | false => rw [hb] at h; exact ag_keepH h

theorem ag_keepT : ∀ {l : List Nat} {i : Nat} {e : Nat × Nat},ag (keepT tk l) i = some e → tk i = some e
  | [],i,e,h => by simp [keepT,ag] at h
  | j :: l,i,e,h => by
    simp only [keepT] at h
    cases hj : tk j with
    | none => rw [hj] at h; exact ag_keepT h
    | some x =>
      rw [hj] at h
      simp only [ag] at h
      cases hb : Nat.beq i j with
      | true =>
        rw [hb] at h
        have := Nat.eq_of_beq_eq_true hb
        subst this
        rw [hj]
        exact h
      | false => rw [hb] at h; exact ag_keepT h

theorem ag_mem {α : Type} : ∀ {l : List (Nat × α)} {i : Nat} {e : α},ag l i = some e → (i,e) ∈ l
  | [],_,_,h => by simp [ag] at h
  | (j,x) :: l,i,e,h => by
    simp only [ag] at h
    cases hb : Nat.beq i j with
    | true =>
      rw [hb] at h
      have := Nat.eq_of_beq_eq_true hb
      subst this
      cases h
      simp
    | false => rw [hb] at h; exact List.mem_cons_of_mem _ (ag_mem h)

theorem length_kills (ks : List Nat) (fr : List D) : (kills ks fr).length = fr.length := by
  induction ks generalizing fr with
  | nil => rfl
  | cons i l ih => simp only [kills,ih,length_upd]

theorem nth_kills (ks : List Nat) (fr : List D) (j : Nat) : nth (kills ks fr) j .dead = nth fr j .dead ∨ nth (kills ks fr) j .dead = .dead := by
  induction ks generalizing fr with
  | nil => exact .inl rfl
  | cons i l ih =>
    simp only [kills]
    rcases ih (upd fr i .dead) with h | h
    · rw [h,nth_upd]
      split
      · exact .inr rfl
      · exact .inl rfl
    · exact .inr h

theorem namesH_mem {l : List (Nat × Bool × List D)} (h : namesH lo hi l = false) : ∀ x ∈ l,¬ (lo ≤ x.1 ∧ x.1 < hi) ∧ names lo hi x.2.2 = false := by
  induction l with
  | nil => simp
  | cons e l ih =>
    obtain ⟨i,f,cs⟩ := e
    simp only [namesH] at h
    cases h1 : (Nat.ble lo i && Nat.blt i hi) with
    | true => rw [h1] at h; cases h
    | false =>
      rw [h1] at h
      cases h2 : names lo hi cs with
      | true => rw [h2] at h; cases h
      | false =>
        rw [h2] at h
        intro x hx
        simp only [List.mem_cons] at hx
        rcases hx with rfl | hx
        · exact ⟨in_range h1,h2⟩
        · exact ih h x hx

theorem namesT_mem {l : List (Nat × Nat × Nat)} (h : namesT lo hi l = false) : ∀ x ∈ l,¬ (lo ≤ x.1 ∧ x.1 < hi) := by
  induction l with
  | nil => simp
  | cons e l ih =>
    obtain ⟨i,f⟩ := e
    simp only [namesT] at h
    cases h1 : (Nat.ble lo i && Nat.blt i hi) with
    | true => rw [h1] at h; cases h
    | false =>
      rw [h1] at h
      intro x hx
      simp only [List.mem_cons] at hx
      rcases hx with rfl | hx
      · exact in_range h1
      · exact ih h x hx

theorem names1_join {d : D} {mid h : Nat} (h1 : d.names1 lo mid = false) (h2 : d.names1 mid h = false) : d.names1 lo h = false := by
  cases d with
  | ptr j o =>
    have e1 := in_range h1
    have e2 := in_range h2
    exact in_range_of (by omega)
  | mref j =>
    have e1 := in_range h1
    have e2 := in_range h2
    exact in_range_of (by omega)
  | msl j z n =>
    have e1 := in_range h1
    have e2 := in_range h2
    exact in_range_of (by omega)
  | rptr j z n i o =>
    have e1 := in_range h1
    have e2 := in_range h2
    exact in_range_of (by omega)
  | slice t z n g =>
    cases t with
    | own j =>
      have e1 := in_range h1
      have e2 := in_range h2
      exact in_range_of (by omega)
    | _ => rfl
  | _ => rfl

theorem names_join {l : List D} {mid h : Nat} (h1 : names lo mid l = false) (h2 : names mid h l = false) : names lo h l = false :=
  names_iff.2 fun d hd => names1_join (names_iff.1 h1 d hd) (names_iff.1 h2 d hd)

theorem names_join_d {d : D} {mid h : Nat} (h1 : d.names lo mid = false) (h2 : d.names mid h = false) : d.names lo h = false := by
  cases d with
  | agg l => exact names_join (l := l) h1 h2
  | tup l => exact names_join (l := l) h1 h2
  | ptr j o => exact names1_join (d := .ptr j o) h1 h2
  | slice t z n g => exact names1_join (d := .slice t z n g) h1 h2
  | mref j => exact names1_join (d := .mref j) h1 h2
  | msl j z n => exact names1_join (d := .msl j z n) h1 h2
  | rptr j z n i o => exact names1_join (d := .rptr j z n i o) h1 h2
  | _ => rfl

theorem Clean.sub {lo' hi' : Nat} (h : Clean lo hi s) (h1 : lo ≤ lo') (h2 : hi' ≤ hi) : Clean lo' hi' s :=
  ⟨fun i hi => names_sub_d (h.fr i hi) h1 h2,fun i f cs hx => ⟨fun hh => (h.hp i f cs hx).1 ⟨by omega,by omega⟩,names_sub (h.hp i f cs hx).2 h1 h2⟩,fun i e hx hh => h.tk i e hx ⟨by omega,by omega⟩⟩

theorem DEq.rp {d d' : D} (e : DEq d d') : ∀ {σ : Sg} {v : Value},Rp σ v d.pure1 → Rp σ v d'.pure1 := by
  induction e with
  | refl d => exact fun h => h
  | dead d => exact fun _ => .dead _
  | slice t t' z n g h ht hl _ ih =>
    intro σ v r
    cases r with
    | slice a _ c _ _ _ b o val h1 h2 h3 h4 h5 =>
      exact .slice a n c .ro z h b o val h1 h2 (fun i hi => by rw [← hl i hi]; exact h3 i hi) h4 fun i j hi hj => ih i hi j (h5 i j hi hj)
  | agg l l' _ _ _ => exact fun _ => .dead _
  | eptr l l' _ _ _ => exact fun _ => .dead _
  | fn f l l' _ _ _ => exact fun _ => .dead _
  | mp => exact fun _ => .dead _
  | newp => exact fun _ => .dead _
  | arr => exact fun _ => .dead _

theorem DEq.rp0 {σ : Sg} {v : Value} {d d' : D} (e : DEq d d') (r : Rp σ v d) : Rp σ v d' := by
  cases e with
  | refl => exact r
  | dead => exact .dead _
  | slice t t' z n g h ht hl he =>
    cases r with
    | slice a _ c _ _ _ b o val h1 h2 h3 h4 h5 =>
      exact .slice a n c t' z h b o val h1 h2 (fun i hi => by rw [← hl i hi]; exact h3 i hi) h4 fun i j hi hj => (he i hi j).rp (h5 i j hi hj)
  | agg l l' _ _ => cases r
  | eptr l l' _ _ => cases r
  | fn f l l' _ _ => cases r
  | mp => cases r
  | newp => cases r
  | arr => cases r

theorem DEq.pure {σ : Sg} {v : Value} {d d' : D} (e : DEq d d') (r : Rp σ v d) (h : d = d.pure1) : d' = d'.pure1 := by
  cases e with
  | refl => exact h
  | dead => rfl
  | slice t t' z n g k ht hl he =>
    cases t with
    | ro => rcases ht with rfl | rfl <;> rfl
    | full => cases h
    | own i => cases h
  | agg l l' _ _ => cases r
  | eptr l l' _ _ => cases r
  | fn f l l' _ _ => cases r
  | mp => cases r
  | newp => cases r
  | arr => cases r

theorem DEq.tag {G : Gh} {tk : Nat → Option (Nat × Nat)} {v : Value} {d d' : D} (e : DEq d d') (h : TagR G tk v d) : TagR G tk v d' := by
  cases e with
  | refl => exact h
  | dead => trivial
  | slice t t' z n g k ht hl he =>
    rcases ht with rfl | rfl
    · cases t' with
      | ro => trivial
      | full => exact h
      | own i => exact h
    · trivial
  | agg l l' _ _ => trivial
  | eptr l l' _ _ => trivial
  | fn f l l' _ _ => trivial
  | mp => trivial
  | newp => trivial
  | arr => trivial

theorem EAt.deq {σ : Sg} {b o : Nat} {l l' : List D} (hl : l.length = l'.length) (he : ∀ j,DEq (nth l j .dead) (nth l' j .dead)) (h : EAt σ b o l) : EAt σ b o l' := fun j hj => by
  obtain ⟨v,h1,h2⟩ := h j (by omega)
  exact ⟨v,h1,(he j).rp h2⟩

theorem DEq.re {σ : Sg} {v : Value} {d d' : D} (e : DEq d d') (r : Re σ v d) : Re σ v d' := by
  cases r with
  | pure r h => exact .pure (e.rp0 r) (e.pure r h)
  | eptr b o l h =>
    cases e with
    | refl => exact .eptr b o l h
    | dead => exact .pure (.dead _) rfl
    | eptr _ l' hl he => exact .eptr b o l' (h.deq hl he)

theorem CellsV.deq {σ : Sg} {va : Bool} {v : Value} {l l' : List D} (h : CellsV σ va v l) (e : DEqs l l') : CellsV σ va v l' := by
  rcases h with ⟨h1,cs,h2,h3,h4⟩ | ⟨h1,h2,h3⟩
  · exact .inl ⟨h1,cs,h2,h3.trans e.1,fun j hj => (e.2 j).rp (h4 j (by rw [e.1]; exact hj))⟩
  · exact .inr ⟨h1,by rw [← e.1]; exact h2,(e.2 0).rp h3⟩

theorem DEq.rc {F : Nat → FuncId} {G : Gh} {tk : Nat → Option (Nat × Nat)} {v : Value} {d d' : D} (e : DEq d d') (r : Rc F G tk v d) : Rc F G tk v d' := by
  cases r with
  | pure r h => exact .pure (e.rp0 r) (e.tag h)
  | ptr id off =>
    cases e with
    | refl => exact .ptr id off
    | dead => exact .pure (.dead _) trivial
  | eptr b o l h =>
    cases e with
    | refl => exact .eptr b o l h
    | dead => exact .pure (.dead _) trivial
    | eptr _ l' hl he => exact .eptr b o l' (h.deq hl he)
  | fn f cap l h1 h2 =>
    cases e with
    | refl => exact .fn f cap l h1 h2
    | dead => exact .pure (.dead _) trivial
    | fn _ _ l' hl he => exact .fn f cap l' (h1.trans hl) fun j hj => (he j).re (h2 j (by omega))
  | mp vk vv va n ks vs h1 h2 h3 h4 =>
    cases e with
    | refl => exact .mp vk vv va n ks vs h1 h2 h3 h4
    | dead => exact .pure (.dead _) trivial
    | mp _ _ _ ks' _ vs' k1 k2 k3 => exact .mp vk vv va n ks' vs' h1 h2 (fun i hi => by rw [← k1 i hi]; exact h3 i hi) fun i hi => (h4 i hi).deq ⟨k2 i hi,k3 i hi⟩

theorem DEq.rd {F : Nat → FuncId} {G : Gh} {tk : Nat → Option (Nat × Nat)} {v : Value} {d d' : D} (e : DEq d d') (r : Rd F G tk v d) : Rd F G tk v d' := by
  cases r with
  | any r =>
    cases r with
    | cell r => exact .any (.cell (e.rc r))
    | agg cs l h1 h2 =>
      cases e with
      | refl => exact .any (.agg cs l h1 h2)
      | dead => exact Rd.dead _
      | agg _ l' hl he => exact .any (.agg cs l' (h1.trans hl) fun j hj => (he j).rc (h2 j (by omega)))
  | tup vs l h1 h2 =>
    cases e with
    | refl => exact .tup vs l h1 h2
    | dead => exact Rd.dead _
  | mref id =>
    cases e with
    | refl => exact .mref id
    | dead => exact Rd.dead _

theorem DEq.names1 {d d' : D} (e : DEq d d') {lo hi : Nat} (h : d.names1 lo hi = false) : d'.names1 lo hi = false := by
  cases e with
  | refl => exact h
  | dead => rfl
  | slice t t' z n g k ht hl he =>
    rcases ht with rfl | rfl
    · cases t' <;> exact h
    · rfl
  | agg => rfl
  | eptr => rfl
  | fn => rfl
  | mp => rfl
  | newp => rfl
  | arr => rfl

theorem DEqs.names {l l' : List D} (e : DEqs l l') {lo hi : Nat} (h : Abs.names lo hi l = false) : Abs.names lo hi l' = false :=
  names_of_nth fun j hj => (e.2 j).names1 (names_nth h (by rw [e.1]; exact hj))

theorem DEq.names {d d' : D} (e : DEq d d') {lo hi : Nat} (h : d.names lo hi = false) : d'.names lo hi = false := by
  cases e with
  | refl => exact h
  | dead => rfl
  | slice t t' z n g k ht hl he => exact DEq.names1 (.slice t t' z n g k ht hl he) h
  | agg l l' hl he => exact DEqs.names ⟨hl,he⟩ h
  | eptr => rfl
  | fn => rfl
  | mp => rfl
  | newp => rfl
  | arr => rfl

theorem tagLe_spec {t' t : Tag} (h : tagLe t' t = true) : t = t' ∨ t = .ro := by
  cases t with
  | ro => exact .inr rfl
  | full => cases t' <;> first | exact .inl rfl | cases h
  | own j =>
    cases t' with
    | own i => exact .inl (by rw [Nat.eq_of_beq_eq_true h])
    | ro => cases h
    | full => cases h

theorem br_true {b : Bool} {p : Prop} (h : Br b p False) : b = true ∧ p := by
  cases b with
  | true => exact ⟨rfl,h⟩
  | false => exact h.elim

theorem eqBB_eq {a b : Bool} (h : eqBB a b = true) : a = b := by cases a <;> cases b <;> first | rfl | cases h

theorem cellK_spec {d d' : D} {k : Prop} (h : cellK d d' k) : DEq d d' ∧ k := by
  cases d' with
  | dead => exact ⟨.dead _,h⟩
  | int kd m =>
    cases d with
    | int kd' n =>
      obtain ⟨h1,rfl,h2⟩ := br_true h
      have := kindEq_eq h1
      subst this
      exact ⟨.refl _,h2⟩
    | _ => exact h.elim
  | bool b =>
    cases d with
    | bool b' => obtain ⟨rfl,h⟩ := h; exact ⟨.refl _,h⟩
    | _ => exact h.elim
  | str b =>
    cases d with
    | str b' => obtain ⟨rfl,h⟩ := h; exact ⟨.refl _,h⟩
    | _ => exact h.elim
  | slice t z m k' =>
    cases d with
    | slice t' z' n g =>
      obtain ⟨h1,rfl,h2,h3⟩ := br_true h
      rw [Bool.and_eq_true] at h1
      have h4 := Nat.eq_of_beq_eq_true h1.2
      subst h4
      exact ⟨.slice t' t z' n g k' (tagLe_spec h1.1) (fun i hi => (h2 i hi).1) fun i hi => (h2 i hi).2,h3⟩
    | _ => exact h.elim
  | ptr i o =>
    cases d with
    | ptr i' o' =>
      obtain ⟨h1,h2⟩ := br_true h
      rw [Bool.and_eq_true] at h1
      have h3 := Nat.eq_of_beq_eq_true h1.1
      have h4 := Nat.eq_of_beq_eq_true h1.2
      subst h3 h4
      exact ⟨.refl _,h2⟩
    | _ => exact h.elim
  | eptr l =>
    cases d with
    | eptr l' => obtain ⟨h1,h⟩ := h; exact ⟨.eptr l' l h1.1 h1.2,h⟩
    | _ => exact h.elim
  | nilp =>
    cases d with
    | nilp => exact ⟨.refl _,h⟩
    | _ => exact h.elim
  | fn f l =>
    cases d with
    | fn f' l' =>
      obtain ⟨h1,h2,h3⟩ := br_true h
      have h4 := Nat.eq_of_beq_eq_true h1
      subst h4
      exact ⟨.fn f' l' l h2.1 h2.2,h3⟩
    | _ => exact h.elim
  | agg l => exact h.elim
  | tup l => exact h.elim
  | ubool => exact h.elim
  | mref i =>
    cases d with
    | mref i' =>
      obtain ⟨h1,h2⟩ := br_true h
      have h3 := Nat.eq_of_beq_eq_true h1
      subst h3
      exact ⟨.refl _,h2⟩
    | _ => exact h.elim
  | mp va m ks vs =>
    cases d with
    | mp va' n ks' vs' =>
      obtain ⟨h1,rfl,h2,h3,h4⟩ := br_true h
      have h5 := eqBB_eq h1
      subst h5
      exact ⟨.mp _ _ _ _ _ _ h2 (fun i hi => (h3 i hi).1) (fun i hi => (h3 i hi).2),h4⟩
    | _ => exact h.elim
  | newp l =>
    cases d with
    | newp l' => obtain ⟨h1,h⟩ := h; exact ⟨.newp l' l h1.1 h1.2,h⟩
    | _ => exact h.elim
  | arr z m k' =>
    cases d with
    | arr z' n g =>
      obtain ⟨h1,rfl,h2,h3⟩ := br_true h
      have h4 := Nat.eq_of_beq_eq_true h1
      subst h4
      exact ⟨.arr _ _ g k' (fun i hi => (h2 i hi).1) fun i hi => (h2 i hi).2,h3⟩
    | _ => exact h.elim
  | msl i z m =>
    cases d with
    | msl i' z' n =>
      obtain ⟨h1,rfl,h2⟩ := br_true h
      rw [Bool.and_eq_true] at h1
      have h3 := Nat.eq_of_beq_eq_true h1.1
      have h4 := Nat.eq_of_beq_eq_true h1.2
      subst h3 h4
      exact ⟨.refl _,h2⟩
    | _ => exact h.elim
  | rptr i z m e o =>
    cases d with
    | rptr i' z' n e' o' =>
      obtain ⟨h1,rfl,rfl,h2⟩ := br_true h
      rw [Bool.and_eq_true,Bool.and_eq_true] at h1
      have h3 := Nat.eq_of_beq_eq_true h1.1.1
      have h4 := Nat.eq_of_beq_eq_true h1.1.2
      have h5 := Nat.eq_of_beq_eq_true h1.2
      subst h3 h4 h5
      exact ⟨.refl _,h2⟩
    | _ => exact h.elim

theorem cellsK_spec : ∀ {l l' : List D} {k : Prop},cellsK l l' k → DEqs l l' ∧ k
  | [],[],_,h => ⟨DEqs.refl _,h⟩
  | _ :: _,_ :: _,_,h =>
    let ⟨h1,h2⟩ := cellK_spec h
    let ⟨h3,h4⟩ := cellsK_spec h2
    ⟨h3.cons h1,h4⟩
  | [],_ :: _,_,h => h.elim
  | _ :: _,[],_,h => h.elim

theorem valK_spec {d d' : D} {k : Prop} (h : valK d d' k) : DEq d d' ∧ k := by
  cases d' with
  | agg l' =>
    cases d with
    | agg l => obtain ⟨h1,h2⟩ := cellsK_spec h; exact ⟨.agg l l' h1.1 h1.2,h2⟩
    | _ => exact h.elim
  | _ => exact cellK_spec h

theorem valsK_spec : ∀ {l l' : List D} {k : Prop},valsK l l' k → DEqs l l' ∧ k
  | [],[],_,h => ⟨DEqs.refl _,h⟩
  | _ :: _,_ :: _,_,h =>
    let ⟨h1,h2⟩ := valK_spec h
    let ⟨h3,h4⟩ := valsK_spec h2
    ⟨h3.cons h1,h4⟩
  | [],_ :: _,_,h => h.elim
  | _ :: _,[],_,h => h.elim

theorem blksK_spec : ∀ {l l' : List (List D)} {k : Prop},blksK l l' k → DEqB l l' ∧ k
  | [],[],_,h => ⟨.nil,h⟩
  | _ :: _,_ :: _,_,h =>
    let ⟨h1,h2⟩ := cellsK_spec h
    let ⟨h3,h4⟩ := blksK_spec h2
    ⟨.cons h1 h3,h4⟩
  | [],_ :: _,_,h => h.elim
  | _ :: _,[],_,h => h.elim

theorem boolEq_eq {a b : Bool} (h : boolEq a b = true) : a = b := by cases a <;> cases b <;> first | rfl | cases h

def Alike2 (cs cs' : List D) : Prop := (solid cs = true ∧ solid cs' = true) ∨ (isIter cs = true ∧ isIter cs' = true) ∨ (isMp cs = true ∧ isMp cs' = true) ∨ (isArr cs = true ∧ isArr cs' = true)

theorem isIter_inv {cs : List D} (h : isIter cs = true) : ∃ s p,cs = [.dead,.str s,.int .i64 p] := by
  unfold isIter at h
  split at h
  · exact ⟨_,_,rfl⟩
  · cases h

theorem isMp_inv {cs : List D} (h : isMp cs = true) : ∃ va n ks vs,cs = [.dead,.mp va n ks vs] := by
  unfold isMp at h
  split at h
  · exact ⟨_,_,_,_,rfl⟩
  · cases h

theorem isArr_inv {cs : List D} (h : isArr cs = true) : ∃ z n g,cs = [.dead,.arr z n g] := by
  unfold isArr at h
  split at h
  · exact ⟨_,_,_,rfl⟩
  · cases h

theorem HoldsO.deq {G : Gh} {tk : Nat → Option (Nat × Nat)} {o : Obj} {cs cs' : List D} (h : HoldsO F G tk o cs') (d : DEqs cs' cs) (a : Alike2 cs cs') : HoldsO F G tk o cs := by
  rcases a with ⟨a1,a2⟩ | ⟨a1,a2⟩ | ⟨a1,a2⟩ | ⟨a1,a2⟩
  · obtain ⟨c,e,h1,h2,h3⟩ := h.cells a2
    exact .inl ⟨a1,c,e,h1,h2.trans d.1,fun j hj => (d.2 j).rc (h3 j (by rw [d.1]; exact hj))⟩
  · obtain ⟨s,p,rfl⟩ := isIter_inv a1
    obtain ⟨s',p',rfl⟩ := isIter_inv a2
    have e1 := d.2 1
    have e2 := d.2 2
    simp only [nth] at e1 e2
    cases e1
    cases e2
    exact h
  · obtain ⟨va,n,ks,vs,rfl⟩ := isMp_inv a1
    obtain ⟨va',n',ks',vs',rfl⟩ := isMp_inv a2
    rcases h with ⟨h1,_⟩ | ⟨_,_,_,h1⟩ | ⟨es,clock,_,_,_,_,h1,h2,h3⟩
    · simp [solid] at h1
    · simp at h1
    · simp only [List.cons.injEq,D.mp.injEq,true_and,and_true] at h2
      obtain ⟨rfl,rfl,rfl,rfl⟩ := h2
      have e1 := d.2 1
      simp only [nth] at e1
      exact .inr (.inr ⟨es,clock,va,n,ks,vs,h1,rfl,e1.rc h3⟩)
  · obtain ⟨z,n,g,rfl⟩ := isArr_inv a2
    rcases h.cell with h | ⟨_,_,h⟩ | ⟨_,_,_,_,h⟩
    · simp [solid] at h
    · simp at h
    · simp at h

theorem hpK_spec {hp : Nat → Option (Bool × List D)} : ∀ {l : List (Nat × Bool × List D)} {k : Prop},hpK hp l k → (∀ i f cs,(i,f,cs) ∈ l → ∃ cs',hp i = some (f,cs') ∧ DEqs cs' cs ∧ (f = false → Alike2 cs cs')) ∧ k
  | [],_,h => ⟨fun _ _ _ hm => by simp at hm,h⟩
  | (i,f,cs) :: l,k,h => by
    simp only [hpK] at h
    split at h
    · rename_i f' cs' hi
      obtain ⟨h1,h2⟩ := br_true h
      obtain ⟨h3,h4⟩ := cellsK_spec h2
      obtain ⟨h5,h6⟩ := hpK_spec h4
      rw [Bool.and_eq_true] at h1
      have h7 := boolEq_eq h1.2
      subst h7
      refine ⟨fun j g c hm => ?_,h6⟩
      simp only [List.mem_cons] at hm
      rcases hm with hm | hm
      · cases hm
        exact ⟨cs',hi,h3,fun hf => by have := h1.1; rw [hf] at this; simpa [Alike2,or_assoc] using this⟩
      · exact h5 j g c hm
    · exact h.elim

theorem tkK_spec {tk : Nat → Option (Nat × Nat)} : ∀ {l : List (Nat × Nat × Nat)} {k : Prop},tkK tk l k → (∀ i z n,(i,z,n) ∈ l → tk i = some (z,n)) ∧ k
  | [],_,h => ⟨fun _ _ _ hm => by simp at hm,h⟩
  | (i,z,n) :: l,k,h => by
    simp only [tkK] at h
    split at h
    · rename_i z' n' hi
      obtain ⟨h1,rfl,h2⟩ := br_true h
      have h3 := Nat.eq_of_beq_eq_true h1
      subst h3
      obtain ⟨h4,h5⟩ := tkK_spec h2
      refine ⟨fun j y m hm => ?_,h5⟩
      simp only [List.mem_cons] at hm
      rcases hm with hm | hm
      · cases hm; exact hi
      · exact h4 j y m hm
    · exact h.elim

theorem Mem.retold (m : Mem F B np w0 ext σ0 G hp tk w) (h1 : ∀ i f cs,hp' i = some (f,cs) → ∃ cs',hp i = some (f,cs') ∧ DEqs cs' cs ∧ (f = false → Alike2 cs cs')) (h2 : ∀ i e,tk' i = some e → tk i = some e) : Mem F B np w0 ext σ0 G hp' tk' w := by
  have k : Keeps 0 0 G G tk tk' := ⟨SgLe.refl _,fun _ _ => rfl,fun i z m' _ h => ⟨z,m',h2 i _ h,Nat.le_refl _,fun _ => rfl⟩⟩
  have ho : ∀ b j,Owns G hp' tk' b j → Owns G hp tk b j := by
    intro b j h
    cases j with
    | inl id => obtain ⟨cs,e1,e2⟩ := h; obtain ⟨cs',e3,_⟩ := h1 _ _ _ e1; exact ⟨cs',e3,e2⟩
    | inr i => obtain ⟨z,n,c,e1,e2,e3⟩ := h; exact ⟨z,n,c,h2 _ _ e1,e2,e3⟩
  refine ⟨m.stab,m.old,m.os,m.tape,m.output,m.base,m.keep,fun id cs h => ?_,fun id cs h j hj => ?_,fun i z n h => m.toks i z n (h2 _ _ h),fun b j j' h h' => m.own1 b j j' (ho b j h) (ho b j' h'),fun b j h => m.own2 b j (ho b j h)⟩
  · obtain ⟨cs',e0,d,hs⟩ := h1 _ _ _ h
    obtain ⟨o,e1,e2,e3⟩ := m.vars id cs' e0
    exact ⟨o,e1,(e2.imp fun j v _ hr => hr.keep k (names1_none _)).deq d (hs rfl),e3⟩
  · obtain ⟨cs',e0,d,_⟩ := h1 _ _ _ h
    obtain ⟨v,e1,e2,e3⟩ := m.froz id cs' e0 j (by rw [d.1]; exact hj)
    exact ⟨v,e1,(d.2 j).rp0 e2,(d.2 j).pure e2 e3⟩

theorem retell_rel (r : Rel F B np w0 ext σ0 G s a w) {α : Type} {S : α → Tm} {lo hi : Nat} {k : α → Prop} (hk : retell S lo hi s k) :
    ∃ x,k x ∧ Rel F B np w0 ext σ0 G (tmSt (S x)) a w ∧ (∀ l h,Clean l h s → Clean l h (tmSt (S x))) ∧ Clean lo hi (tmSt (S x)) := by
  obtain ⟨x,hk⟩ := hk
  cases hb : (namesv lo hi (S x).fr || namesH lo hi (S x).hp || namesT lo hi (S x).tk) with
  | true => rw [hb] at hk; exact hk.elim
  | false =>
    rw [hb] at hk
    simp only [Bool.or_eq_false_iff] at hb
    obtain ⟨⟨hb1,hb2⟩,hb3⟩ := hb
    obtain ⟨d,hk⟩ := valsK_spec hk
    obtain ⟨hh,hk⟩ := hpK_spec hk
    obtain ⟨ht,hk⟩ := tkK_spec hk
    have hh' : ∀ i f cs,ag (S x).hp i = some (f,cs) → ∃ cs',s.hp i = some (f,cs') ∧ DEqs cs' cs ∧ (f = false → Alike2 cs cs') := fun i f cs h => hh i f cs (ag_mem h)
    have ht' : ∀ i e,ag (S x).tk i = some e → s.tk i = some e := fun i e h => ht i e.1 e.2 (ag_mem h)
    have kk : Keeps 0 0 G G s.tk (ag (S x).tk) := ⟨SgLe.refl _,fun _ _ => rfl,fun i z m' _ h => ⟨z,m',ht' _ _ h,Nat.le_refl _,fun _ => rfl⟩⟩
    refine ⟨x,hk,⟨r.defers,r.size.trans d.1,fun i hi' => ?_,r.mem.retold hh' ht',r.par⟩,fun l h hc => ⟨fun i hi' => ?_,fun i f cs hx => ?_,fun i e hx => ?_⟩,⟨fun i hi' => namesv_nth hb1 hi',fun i f cs hx => namesH_mem hb2 _ (ag_mem hx),fun i e hx => namesT_mem hb3 _ (ag_mem hx)⟩⟩
    · exact (d.2 i).rd ((r.slots i (by rw [d.1]; exact hi')).keep kk (names_none _))
    · exact (d.2 i).names (hc.fr i (by rw [d.1]; exact hi'))
    · obtain ⟨cs',e1,e2,_⟩ := hh' i f cs hx
      have := hc.hp i f cs' e1
      exact ⟨this.1,e2.names this.2⟩
    · exact hc.tk i e (ht' i e hx)

theorem Clean.join {mid h : Nat} (h1 : Clean lo mid s) (h2 : Clean mid h s) : Clean lo h s :=
  ⟨fun i hi => names_join_d (h1.fr i hi) (h2.fr i hi),fun i f cs hx => ⟨fun hh => by
    have e1 := (h1.hp i f cs hx).1
    have e2 := (h2.hp i f cs hx).1
    omega,names_join (h1.hp i f cs hx).2 (h2.hp i f cs hx).2⟩,fun i e hx hh => by
    have e1 := h1.tk i e hx
    have e2 := h2.tk i e hx
    omega⟩

theorem retell_head (r : Rel F B np w0 ext σ0 G s a w) {α : Type} {S : α → Tm} {lo hi : Nat} (hcl : ∀ h,Clean hi h s) {k : α → Prop} (hk : retell S lo hi s k) :
    ∃ x,k x ∧ Rel F B np w0 ext σ0 G (tmSt (S x)) a w ∧ ∀ h,Clean lo h (tmSt (S x)) := by
  obtain ⟨x,h1,h2,h3,h4⟩ := retell_rel r hk
  exact ⟨x,h1,h2,fun h => h4.join (h3 _ _ (hcl h))⟩

theorem length_rosK (lo hi : Nat) (l : List D) : (rosK lo hi l).length = l.length := by
  induction l with
  | nil => rfl
  | cons d l ih => simp only [rosK,List.length_cons,ih]

theorem nth_rosK (lo hi : Nat) (l : List D) (j : Nat) : nth (rosK lo hi l) j .dead = ro1K lo hi (nth l j .dead) := by
  induction l generalizing j with
  | nil => rfl
  | cons d l ih => cases j with
    | zero => rfl
    | succ j => exact ih j

theorem Rd.ro1K {G : Gh} {tk : Nat → Option (Nat × Nat)} {v : Value} {d : D} (h : Rd F G tk v d) (lo hi : Nat) : Rd F G tk v (ro1K lo hi d) := by
  cases d with
  | slice t z n g =>
    cases t with
    | own i =>
      simp only [Abs.ro1K]
      cases (Nat.ble lo i && Nat.blt i hi) with
      | true => exact .any (.cell (.pure (h.slice_inv.1.tag .ro) trivial))
      | false => exact h
    | _ => exact h
  | _ => exact h

theorem names_ro1K {d : D} {a b lo hi : Nat} (h : d.names a b = false) : (ro1K lo hi d).names a b = false := by
  cases d with
  | slice t z n g =>
    cases t with
    | own i =>
      simp only [Abs.ro1K]
      cases (Nat.ble lo i && Nat.blt i hi) with
      | true => rfl
      | false => exact h
    | _ => exact h
  | _ => exact h

theorem head_rel (r : Rel F B np w0 ext σ0 G s a w) {kill kh kt : List Nat} {lo hi : Nat} (hcl : ∀ h,Clean hi h s) {k : St → Prop} (hk : atHead kill kh kt lo hi s k) :
    ∃ s',k s' ∧ Rel F B np w0 ext σ0 G s' a w ∧ ∀ h,Clean lo h s' := by
  unfold atHead at hk
  cases hb : (namesv lo hi (rosK lo hi (kills kill s.fr)) || namesH lo hi (keepH s.hp kh) || namesT lo hi (keepT s.tk kt)) with
  | true => rw [hb] at hk; exact hk.elim
  | false =>
    rw [hb] at hk
    simp only [Bool.or_eq_false_iff] at hb
    obtain ⟨⟨hb1,hb2⟩,hb3⟩ := hb
    have kk : Keeps 0 0 G G s.tk (ag (keepT s.tk kt)) := ⟨SgLe.refl _,fun _ _ => rfl,fun i z m' _ h => ⟨z,m',ag_keepT h,Nat.le_refl _,fun _ => rfl⟩⟩
    refine ⟨_,hk,⟨r.defers,by simp only [length_rosK,length_kills]; exact r.size,fun i hi' => ?_,r.mem.restrict (fun i e h => ag_keepH h) (fun i e h => ag_keepT h),r.par⟩,fun h => ⟨fun i hi' => ?_,fun i f cs hx => ?_,fun i e hx => ?_⟩⟩
    · simp only [length_rosK,length_kills] at hi'
      simp only
      rw [nth_rosK]
      rcases nth_kills kill s.fr i with e | e
      · rw [e]
        exact Rd.ro1K ((r.slots i hi').keep kk (names_none _)) _ _
      · rw [e]
        exact Rd.dead _
    · simp only [length_rosK,length_kills] at hi'
      simp only
      have e1 := namesv_nth hb1 (j := i) (by rw [length_rosK,length_kills]; exact hi')
      refine names_join_d e1 ?_
      rw [nth_rosK]
      rcases nth_kills kill s.fr i with e | e
      · rw [e]; exact names_ro1K ((hcl h).fr i hi')
      · rw [e]; rfl
    · have e1 := namesH_mem hb2 _ (ag_mem hx)
      have e2 := (hcl h).hp i f cs (ag_keepH hx)
      refine ⟨fun hh => ?_,names_join e1.2 e2.2⟩
      have e3 := e1.1
      have e4 := e2.1
      simp only at e3
      omega
    · have e1 := namesT_mem hb3 _ (ag_mem hx)
      have e2 := (hcl h).tk i e (ag_keepT hx)
      simp only at e1
      omega

def exitOf : AE → Exit
  | .normal => .normal
  | .exit i => .exit i
  | .ret => .ret

theorem least (p : Nat → Prop) (h : ∃ n,p n) : ∃ n,p n ∧ ∀ m,p m → n ≤ m := by
  obtain ⟨n,hn⟩ := h
  induction n using Nat.strongRecOn with
  | _ n ih =>
    by_cases hm : ∃ m,m < n ∧ p m
    · obtain ⟨m,h1,h2⟩ := hm
      exact ih m h1 h2
    · exact ⟨n,hn,fun m h => Nat.le_of_not_lt fun h1 => hm ⟨m,h1,h⟩⟩

theorem wp_rounds {c : Code} {Q : Exit → Act → World → Prop} (I : Nat → Act → World → Prop) {n : Nat} (h0 : I n a w) (round : ∀ n a w,I n a w → c.wp P (Exit.then (fun a' w' => ∃ m,m < n ∧ I m a' w') Q) a w) : (Code.loop c).wp P Q a w := by
  classical
  let μ : Act → World → Nat := fun a w => if h : ∃ n,I n a w then Classical.choose (least _ h) else 0
  refine wp_loop (fun a w => ∃ n,I n a w) μ ⟨n,h0⟩ fun a w hI => ?_
  have hμ : μ a w = Classical.choose (least _ hI) := dif_pos hI
  refine wp_mono (round _ a w (Classical.choose_spec (least _ hI)).1) fun e a' w' hq => ?_
  cases e with
  | normal =>
    obtain ⟨m,hm,hI'⟩ := hq
    have hE : ∃ n,I n a' w' := ⟨m,hI'⟩
    have h1 : μ a' w' = Classical.choose (least _ hE) := dif_pos hE
    refine ⟨hE,?_⟩
    rw [h1,hμ]
    exact Nat.lt_of_le_of_lt ((Classical.choose_spec (least _ hE)).2 m hI') hm
  | exit id => exact hq
  | goto l => exact hq
  | ret => exact hq
  | panic ch => exact hq
  | outgrown => exact hq

theorem Clean.up {lo lo' : Nat} (h : ∀ hi,Clean lo hi s) (h1 : lo ≤ lo') : ∀ hi,Clean lo' hi s := fun hi => (h hi).sub h1 (Nat.le_refl _)

def CodeOk (P : Program) (F : Nat → FuncId) (E : Env) (np : Nat) (c : Code) (x : AC) (lo hi : Nat) : Prop :=
  ∀ {B : Nat} {w0 : World} {ext : List Nat} {σ0 : Sg} {G : Gh} {s : St} {a : Act} {w : World} {Q : AE → St → Prop} {Qm : Exit → Act → World → Prop},np ≤ lo → Rel F B np w0 ext σ0 G s a w → (∀ h,Clean lo h s) → aev E x Q s →
    (∀ e s' a' w' G',Q e s' → Rel F B np w0 ext σ0 G' s' a' w' → (∀ h,Clean hi h s') → Qm (exitOf e) a' w') → c.wp P Qm a w

end
end Go.Abs
