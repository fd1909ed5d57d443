/- The abstract machine and its soundness. -/
import Derived.Lib.OthersKept
import Derived.Test.YtcmjinkfgbadoabLabelsBothP1
set_option linter.unusedVariables false
set_option linter.unusedSimpArgs false
set_option linter.unusedSectionVars false
namespace Go.Abs
open Go
section
variable {P:Program} {F:Nat→FuncId} {B np:Nat} {w0 w w':World} {ext:List Nat} {σ0:Og} {G:Gh} {hp:Nat→Option (Bool×List D)} {tk:Nat→Option (Nat×Nat)}
theorem zC (m:Mem F B np w0 ext σ0 G hp tk w) {x:Value} {d:D} (hx:Rd F G tk x d) {id nn:Nat} (hn:0 < nn) (fr:Free hp tk id (id+nn)) {t:TypeId} (ht:P.underlying t=some .string) {v:D} {u:Upd}
  (hh:(aR .iterStr id hp tk [d]).holds v u):Does F B np w0 ext σ0 G hp tk (((Instr.range t x).run P w).andThen fun v w=>.ok (.value v) w) id nn v u:=by
 cases d with
 | str s =>
  simp only [aR] at hh
  obtain ⟨rfl,rfl⟩:=aV hh
  have:=hx.str_inv
  subst this
  have m1:=m.allocObj (.stringIter s 0)
  have hle:=c8 m (fun _=>none)
  have hk:Keeps id (id+nn) G { σ:=aL G.σ w.heap.size (fun _=>none),β:=fun j=>if j=id then w.heap.size else G.β j,ρ:=G.ρ,η:=G.η,γ:=G.γ,φ:=G.φ } tk tk :=
   ⟨hle,fun j hj=>by simp only; rw [if_neg (by omega)],fun _ z m _ e=>⟨z,m,e,Nat.le_refl _,fun _=>rfl⟩,fun _ _ _ _ e=>e,fun _ x e=>⟨x.ob,e⟩⟩
  have m2:=m1.addObj id w.heap.size [.dead,.str s,.int .i64 0] (.stringIter s 0) (heap_alloc_new w _) (.inr (.inl ⟨s,0,rfl,rfl⟩)) (fun o=>by simp [aL])
   (fun k hk=>by have:=m.own_lt (k:=k) (b:=w.heap.size) (by cases k <;> exact hk); omega) (.inl m.base) (fr.var ⟨Nat.le_refl _,by omega⟩)
   (fun id' f cs' h=>cZ (fr.hp id' f cs' h).2 (Nat.le_refl _) (by omega)) m.resv_new (fun x va n ks vs h _=>by cases h) (fun x va n ks vs h=>by cases h)
  refine ⟨_,_,_,_,?_,.inl rfl,m2,.any (.cell (.ptr id 0)),hk⟩
  rw [run_range_string w t s ht]
  simp [World.iter]
 | _=>exact (aC hh).elim
theorem zG (m:Mem F B np w0 ext σ0 G hp tk w) {x:Value} {d:D} (hx:Rd F G tk x d) (id nn:Nat) (ty:TypeId) {v:D} {u:Upd}
  (hh:(aR .nextStr id hp tk [d]).holds v u):Does F B np w0 ext σ0 G hp tk (((Instr.next x true ty).run P w).andThen fun v w=>.ok (.value v) w) id nn v u:=by
 cases d with
 | ptr i o =>
  cases o with
  | succ o=>exact (aC hh).elim
  | zero =>
   simp only [aR] at hh
   unfold q6 at hh
   split at hh
   ·rename_i s p hi
    have hxx:=hx.ptr_inv
    subst hxx
    obtain ⟨ob,hb,hob,hσ⟩:=m.vars i _ hi rfl
    rcases hob with ⟨h1,_⟩ | ⟨s',pos,rfl,h1⟩ | ⟨_,_,_,_,_,_,_,_,h1,_⟩
    rotate_right
    ·simp at h1
    ·simp [aI] at h1
    ·simp only [List.cons.injEq,D.str.injEq,D.int.injEq,true_and,and_true] at h1
     obtain ⟨rfl,rfl⟩:=h1
     rcases bV hh with ⟨hc,rfl,rfl⟩ | ⟨hc,rfl,rfl⟩
     ·have hlt:pos < s.size:=by
       simp only [Bool.and_eq_true,decide_eq_true_eq] at hc
       omega
      refine ⟨w.iterAt (G.β i) s (pos+(Utf8.decode s pos).2),_,_,G,?_,.inl rfl,m.setObj i _ _ hi (.stringIter s (pos+(Utf8.decode s pos).2)) ⟨rfl,rfl,rfl,Lib.iterAt_size _ _ _ _,fun k hk=>Lib.iterAt_other _ _ _ _ _ hk⟩
       (Lib.iterAt_heap w (G.β i) s pos _ hb) rfl (.inr (.inl ⟨s,_,rfl,?_⟩)) (fun x va n ks vs h _=>by cases h) (fun x va n ks vs h=>by cases h),.tup #[.bool true,.int .i64 pos,.int .i32 (Utf8.decode s pos).1] _ (by simp) ?_,Keeps.refl _ _ _ _⟩
      ·rw [Lib.run_next_any_at w (G.β i) s pos ty hb hlt]
       rfl
      ·simp
      ·intro j hj
       simp only [Int.toNat_natCast]
       rcases j with _ | _ | _ | j
       ·exact .cell (.pure (.bool _) trivial)
       ·exact .cell (.pure (.int _ _) trivial)
       ·exact .cell (.pure (.int _ _) trivial)
       ·exfalso; simp only [List.length_cons,List.length_nil] at hj; omega
     ·have hlt:¬pos < s.size:=by
       intro h
       simp only [Bool.and_eq_false_iff,decide_eq_false_iff_not] at hc
       omega
      refine ⟨w,_,_,G,?_,.inl rfl,m,.tup #[.bool false] _ (by simp) ?_,Keeps.refl _ _ _ _⟩
      ·rw [Lib.run_next_end_at w (G.β i) s pos ty hb hlt]
       rfl
      ·intro j hj
       rcases j with _ | j
       ·exact .cell (.pure (.bool _) trivial)
       ·exfalso; simp only [List.length_cons,List.length_nil] at hj; omega
   ·exact (aC hh).elim
 | _=>exact (aC hh).elim
end
section
variable {P:Program} {F:Nat→FuncId} {B np:Nat} {w0 w w':World} {ext:List Nat} {σ0:Og} {G G':Gh} {s:St} {a:Act} {ft:FT}
abbrev dP (P:Program) (F:Nat→FuncId) (B np:Nat) (w0:World) (ext:List Nat) (σ0:Og) (G:Gh) (s:St) (w:World) (run:Result Next) (tr:Option (AOp×List AX)):Prop :=
 ∀ ao xs,tr=some (ao,xs)→mS ao=false→∀ id,np≤id→Clean id (id+bF ao) s→∀ v u,(aR ao id s.hp s.tk (evs s.fr xs)).holds v u→Does F B np w0 ext σ0 G s.hp s.tk run id (bF ao) v u
theorem aAW {y:Operand} (h:wE y=true):y=.const (.pointer none):=by
 unfold wE at h
 split at h
 ·rfl
 ·cases h
theorem u6 {op:BinOp} {p b:Bool} {a c:AX} {ao:AOp} {xs:List AX} (h:yM op p b [a,c]=some (ao,xs)):∃ neg,op=(if neg then .neq else .eql)∧ao=.isNil p neg∧xs=[a]∧b=true:=by
 simp only [yM] at h
 cases b with
 | false=>cases h
 | true =>
  simp only [cond_true] at h
  split at h
  ·cases h; exact ⟨false,rfl,rfl,rfl,rfl⟩
  ·cases h; exact ⟨true,rfl,rfl,rfl,rfl⟩
  ·cases h
theorem aB4 {y:Operand} (h:tY y=true):y=.const (.map none):=by
 unfold tY at h
 split at h
 ·rfl
 ·cases h
theorem aBO {op:BinOp} {b:Bool} {a c:AX} {ao:AOp} {xs:List AX} (h:vF op b [a,c]=some (ao,xs)):∃ neg,op=(if neg then .neq else .eql)∧ao=.isNilM neg∧xs=[a]∧b=true:=by
 simp only [vF] at h
 cases b with
 | false=>cases h
 | true =>
  simp only [cond_true] at h
  split at h
  ·cases h; exact ⟨false,rfl,rfl,rfl,rfl⟩
  ·cases h; exact ⟨true,rfl,rfl,rfl,rfl⟩
  ·cases h
theorem r7 {t:TypeId} {g:Bool} {z:List D} (h:aF5 P t=some (g,z)):∃ k e,P.underlying t=some (.map k e)∧P.underlying k=some .string∧sR P e=some (g,z):=by
 unfold aF5 at h
 split at h
 ·rename_i k e hu
  split at h
  ·rename_i hk
   exact ⟨k,e,hu,hk,h⟩
  ·cases h
 ·cases h
section ops
variable (hft:∀ f j,ag ft f=some j→F j=f) (r:Rel F B np w0 ext σ0 G s a w)
 include hft r
theorem aHM (ty:TypeId) (x:Operand):dP P F B np w0 ext σ0 G s w (.ok (.value (a.eval x)) w) (v7 P ft ty x):=by
 intro ao xs ht _ id hnp hcl v u hh
 unfold v7 at ht
 split at ht
 ·rename_i hx
  have:=o5 hx
  subst this
  rw [Option.map_eq_some_iff] at ht
  obtain ⟨z,_,h⟩:=ht
  cases h
  exact aDS r.mem (by simp [bF]) hcl.free z hh
 ·rw [Option.map_eq_some_iff] at ht
  obtain ⟨ax,h1,h⟩:=ht
  cases h
  exact aGI r.mem (aAJ (a8 hft r h1) _) _ _ hh
theorem aJ2 (t:TypeId):dP P F B np w0 ext σ0 G s w (((Instr.alloc t true (.tuple #[])).run P w).andThen fun v w=>.ok (.value v) w) (tN P t):=by
 have _:=hft
 intro ao xs ht _ id hnp hcl v u hh
 unfold tN at ht
 split at ht
 ·rename_i ds n hz hs
  split at ht
  ·cases ht
   obtain ⟨i,zv,hi,hzv,hds⟩:=gW hz
   exact aD6 r.mem t hi hzv hds _ rfl (aAR _ _) hcl.free hh
  ·cases ht
 ·cases ht
theorem aJN (t:TypeId) (parts:Array (Nat×Operand)):dP P F B np w0 ext σ0 G s w (((Instr.build t (parts.map fun (i,x)=>(i,a.eval x))).run P w).andThen fun v w=>.ok (.value v) w) (tJ P ft t parts):=by
 intro ao xs ht _ id hnp hcl v u hh
 unfold tJ at ht
 split at ht
 ·rename_i fs z l hu hz hx
  split at ht
  ·rename_i hsz
   rw [Option.map_eq_some_iff] at ht
   obtain ⟨qs,h1,h⟩:=ht
   cases h
   obtain ⟨i,zv,hi,hzv,hds⟩:=gW hz
   obtain ⟨places,h2,h3⟩:=p5 fs.toList hsz
   refine vP (place:=(places.toArray[·]?)) r.mem _ qs _ hi hzv hds (fun cells hf=>?_) ?_ hh
   ·simp only [Program.built,hi,hu,hzv,h2]
    exact hf
   ·rw [Array.toList_map]
    refine oA hft r (fun i q hq=>?_) parts.toList qs _ h1 hx
    have:=h3 i
    simp only [List.getElem?_toArray]
    rw [this,← hq,Array.getElem?_toList]
    all_goals (cases fs[i]? <;> rfl)
  ·cases ht
 ·rename_i n e z l hu hz hx
  split at ht
  ·rename_i n hn
   rw [Option.map_eq_some_iff] at ht
   obtain ⟨qs,h1,h⟩:=ht
   cases h
   obtain ⟨i,zv,hi,hzv,hds⟩:=gW hz
   obtain ⟨ie,hie,rfl⟩:=o8 hn
   have hpr:l4 F G s.tk (fun k=>some (k * ie.size,ie.size)) (parts.map fun (i,x)=>(i,a.eval x)).toList qs (evs s.fr xs):=by
    rw [Array.toList_map]
    exact oA hft r (fun i q hq=>hq) parts.toList qs xs h1 hx
   have hbu:∀ cells,Instr.fill (fun k=>some (k * ie.size,ie.size)) zv.cells (parts.map fun (i,x)=>(i,a.eval x)).toList=some cells→P.built t (parts.map fun (i,x)=>(i,a.eval x)).toList=some cells:=by
    intro cells hf
    simp only [Program.built,hi,hu,hzv,hie]
    exact hf
   exact vP r.mem _ qs (evs s.fr xs) hi hzv hds hbu hpr hh
  ·cases ht
 ·cases ht
theorem zF (t:TypeId) (len:Nat) (parts:Array (Nat×Operand)):dP P F B np w0 ext σ0 G s w (((Instr.buildSlice t len (parts.map fun (i,x)=>(i,a.eval x))).run P w).andThen fun v w=>.ok (.value v) w) (iP P ft t len parts):=by
 intro ao xs ht _ id hnp hcl v u hh
 unfold iP at ht
 split at ht
 ·rename_i e l hu hx
  split at ht
  ·rename_i n z hs hz
   split at ht
   ·rename_i hb
    rw [Option.map_eq_some_iff] at ht
    obtain ⟨qs,h1,h⟩:=ht
    cases h
    obtain ⟨i,zv,hi,hzv,hds⟩:=gW hz
    obtain ⟨i',hi',rfl⟩:=o8 hs
    rw [hi] at hi'
    cases hi'
    have hpr:l4 F G s.tk (fun k=>some (k * i.size,i.size)) (parts.map fun (i,x)=>(i,a.eval x)).toList qs (evs s.fr xs):=by
     rw [Array.toList_map]
     exact oA hft r (fun i q hq=>hq) parts.toList qs xs h1 hx
    exact tG r.mem _ qs (evs s.fr xs) hu hi hzv hds hb.2 hb.1 hpr hh
   ·cases ht
  ·cases ht
 ·cases ht
theorem aKY (t:TypeId) (x:Operand):dP P F B np w0 ext σ0 G s w (((Instr.loadAt t (a.eval x)).run P w).andThen fun v w=>.ok (.value v) w) (zT P ft t x):=by
 intro ao xs ht _ id hnp hcl v u hh
 unfold zT at ht
 split at ht
 ·rename_i ax g n h1 h2 h3
  split at ht
  ·rename_i hgn
   cases ht
   exact aFX r.mem (a8 hft r h1) _ _ h2 h3 hgn hh
  ·cases ht
 ·cases ht
theorem aJ8 (t:TypeId) (x y:Operand):dP P F B np w0 ext σ0 G s w (((Instr.storeAt t (a.eval x) (a.eval y)).run P w).andThen fun _ w=>.ok .skip w) (tQ P ft t x y):=by
 intro ao xs ht _ id hnp hcl v u hh
 unfold tQ at ht
 split at ht
 ·rename_i ax ay n h1 h2 h3
  cases ht
  exact aDC r.mem (a8 hft r h1) (aAJ (a8 hft r h2) _) _ _ h3 hh
 ·cases ht
theorem aAT (st:TypeId) (x:Operand) (f:Nat):dP P F B np w0 ext σ0 G s w (((Instr.fieldAt st (a.eval x) f).run P w).andThen fun v w=>.ok (.value v) w) (jS P ft st x f):=by
 intro ao xs ht _ id hnp hcl v u hh
 unfold jS at ht
 split at ht
 ·rename_i fs ax hu h1
  split at ht
  ·rename_i fl hf
   split at ht
   ·rename_i n hn
    split at ht
    ·cases ht
    ·rename_i h0
     cases ht
     exact vX r.mem (a8 hft r h1) _ _ hu hf hn h0 hh
   ·cases ht
  ·cases ht
 ·cases ht
theorem aJJ (st:TypeId) (x:Operand) (f:Nat):dP P F B np w0 ext σ0 G s w (((Instr.field st (a.eval x) f).run P w).andThen fun v w=>.ok (.value v) w) (tU P ft st x f):=by
 intro ao xs ht _ id hnp hcl v u hh
 unfold tU at ht
 split at ht
 ·rename_i fs ax hu h1
  split at ht
  ·rename_i fl hf
   split at ht
   ·rename_i g n hg hn
    split at ht
    ·rename_i hgn
     cases ht
     exact aC9 r.mem (a8 hft r h1) _ _ hu hf hg hn hgn hh
    ·cases ht
   ·cases ht
  ·cases ht
 ·cases ht
theorem aA1 (t:TypeId) (x i:Operand):dP P F B np w0 ext σ0 G s w (((Instr.indexAt t (a.eval x) (a.eval i)).run P w).andThen fun v w=>.ok (.value v) w) (j7 P ft t x i):=by
 intro ao xs ht _ id hnp hcl v u hh
 unfold j7 at ht
 split at ht
 ·rename_i e ax ai hu h1 h2
  rw [Option.map_eq_some_iff] at ht
  obtain ⟨k,hk,h⟩:=ht
  cases h
  exact mW r.mem (a8 hft r h1) (a8 hft r h2) _ _ hu hk hh
 ·rename_i len e ax ai hu h1 h2
  rw [Option.map_eq_some_iff] at ht
  obtain ⟨k,hk,h⟩:=ht
  cases h
  exact pI r.mem (a8 hft r h1) (a8 hft r h2) _ _ hu hk hh
 ·cases ht
theorem aJV (t:TypeId) (x i:Operand):dP P F B np w0 ext σ0 G s w (((Instr.index t (a.eval x) (a.eval i)).run P w).andThen fun v w=>.ok (.value v) w) (tW P ft t x i):=by
 intro ao xs ht _ id hnp hcl v u hh
 unfold tW at ht
 split at ht
 ·rename_i ax ai hu h1 h2
  cases ht
  exact xA r.mem (a8 hft r h1) (a8 hft r h2) _ _ hu hh
 ·rename_i len e ax ai hu h1 h2
  split at ht
  ·rename_i g n hg hn
   split at ht
   ·rename_i hgn
    cases ht
    exact w7 r.mem (a8 hft r h1) (a8 hft r h2) _ _ hu hg hn hgn hh
   ·cases ht
  ·cases ht
 ·cases ht
theorem aJI (t:TypeId) (x:Operand) (lo hi mx:Option Operand):dP P F B np w0 ext σ0 G s w (((Instr.sliceAt t (a.eval x) (lo.map a.eval) (hi.map a.eval) (mx.map a.eval)).run P w).andThen fun v w=>.ok (.value v) w) (tM P ft np t x lo hi mx):=by
 intro ao xs ht _ id hnp hcl v u hh
 unfold tM at ht
 split at ht
 ·rename_i e ax l hu h1 hl
  obtain ⟨l1,hl1,o1⟩:=hP hft r hl
  obtain ⟨l2,hl2,o2⟩:=hP hft r hl1
  obtain ⟨l3,hl3,o3⟩:=hP hft r hl2
  have:=aCS hl3
  subst this
  split at ht
  ·cases ht
  ·rename_i hmx
   rw [Option.map_eq_some_iff] at ht
   obtain ⟨k,hk,h⟩:=ht
   cases h
   refine zU r.mem (a8 hft r h1) o1 o2 o3 (fun h=>?_) _ _ hu hk hh
   cases hi <;> simp_all
 ·rename_i ax l hu h1 hl
  obtain ⟨l1,hl1,o1⟩:=hP hft r hl
  obtain ⟨l2,hl2,o2⟩:=hP hft r hl1
  obtain ⟨l3,hl3,o3⟩:=hP hft r hl2
  have:=aCS hl3
  subst this
  split at ht
  ·cases ht
  ·rename_i hmx
   cases ht
   have hm0:mx=none:=by cases mx <;> simp_all
   subst hm0
   have e2:evs s.fr l2=[]:=by
    have:l2=[]:=by simpa [xJ] using hl2.symm
    rw [this]
    rfl
   rw [e2] at o2
   exact xC r.mem (a8 hft r h1) o1 o2 _ _ hu hh
 ·rename_i len e ax l hu h1 hl
  split at ht
  ·rename_i hno
   rw [Option.map_eq_some_iff] at ht
   obtain ⟨k,hk,h⟩:=ht
   cases h
   simp only [Bool.and_eq_true,Option.isNone_iff_eq_none] at hno
   obtain ⟨⟨rfl,rfl⟩,rfl⟩:=hno
   exact w6 r.mem (a8 hft r h1) _ _ hu hk hh
  ·split at ht
   ·rename_i hc
    cases ht
    simp only [Bool.and_eq_true,Option.isNone_iff_eq_none,beq_iff_eq] at hc
    obtain ⟨rfl,hk⟩:=hc
    obtain ⟨l1,hl1,o1⟩:=hP hft r hl
    obtain ⟨l2,hl2,o2⟩:=hP hft r hl1
    have e2:evs s.fr l2=[]:=by
     have:l2=[]:=by simpa [xJ] using hl2.symm
     rw [this]
     rfl
    rw [e2] at o2
    exact wY r.mem (a8 hft r h1) o1 o2 _ _ hu hk hh
   ·cases ht
 ·cases ht
theorem aLN (op:BinOp) (t:TypeId) (x y:Operand):dP P F B np w0 ext σ0 G s w (((do eqGuard op t x y (a.eval x) (a.eval y); binOp op t (a.eval x) (a.eval y):Sem Value).run P w).andThen fun v w=>.ok (.value v) w) (aE7 P ft op t x y):=by
 intro ao xs ht _ id hnp hcl v u hh
 unfold aE7 at ht
 split at ht
 ·rename_i l hx
  obtain ⟨p,q,rfl,e1,e2⟩:=aEY hx
  have agg:bY P t=some true→aGP P op t [p,q]=some (ao,xs)→Does F B np w0 ext σ0 G s.hp s.tk (((do eqGuard op t x y (a.eval x) (a.eval y); binOp op t (a.eval x) (a.eval y):Sem Value).run P w).andThen fun v w=>.ok (.value v) w) id (bF ao) v u:=by
   intro hag h
   unfold aGP at h
   split at h
   ·rename_i n hn
    split at hn
    ·cases hn
    ·rename_i hg
     split at h
     ·cases h
      exact uQ r.mem (a8 hft r e1) (a8 hft r e2) _ _ false (by simpa using hg) hn hag hh
     ·cases h
   ·rename_i n hn
    split at hn
    ·cases hn
    ·rename_i hg
     split at h
     ·cases h
      exact uQ r.mem (a8 hft r e1) (a8 hft r e2) _ _ true (by simpa using hg) hn hag hh
     ·cases h
   ·cases h
  split at ht
  ·rename_i fs hu
   exact agg (by simp [bY,hu]) ht
  ·rename_i n e hu
   exact agg (by simp [bY,hu]) ht
  ·rename_i hu
   split at ht
   ·cases ht
    exact yS r.mem (a8 hft r e1) (a8 hft r e2) _ _ false hu (ox:=x) (oy:=y) hh
   ·cases ht
    exact yS r.mem (a8 hft r e1) (a8 hft r e2) _ _ true hu (ox:=x) (oy:=y) hh
   ·cases ht
  ·cases ht
   exact aB3 r.mem (a8 hft r e1) (a8 hft r e2) _ _ op (t:=t) (ox:=x) (oy:=y) hh
  ·cases ht
   exact aB3 r.mem (a8 hft r e1) (a8 hft r e2) _ _ op (t:=t) (ox:=x) (oy:=y) hh
  ·rename_i e hu
   obtain ⟨neg,rfl,rfl,rfl,hy⟩:=u6 ht
   have:=o5 hy
   subst this
   exact aCT r.mem (a8 hft r e1) _ _ neg hu (ox:=x) (oy:=.const (.slice none 0 0)) hh
  ·rename_i e hu
   obtain ⟨neg,rfl,rfl,rfl,hy⟩:=u6 ht
   have:=aAW hy
   subst this
   exact aBF r.mem (a8 hft r e1) _ _ neg hu (ox:=x) (oy:=.const (.pointer none)) hh
  ·rename_i kt et hu
   obtain ⟨neg,rfl,rfl,rfl,hy⟩:=aBO ht
   have:=aB4 hy
   subst this
   exact aAV r.mem (a8 hft r e1) _ _ neg hu (ox:=x) hh
  ·cases ht
 ·cases ht
theorem aKP (src dst:TypeId) (x:Operand):dP P F B np w0 ext σ0 G s w (((convert src dst (a.eval x)).run P w).andThen fun v w=>.ok (.value v) w) (zQ P ft src dst x):=by
 intro ao xs ht _ id hnp hcl v u hh
 unfold zQ at ht
 split at ht
 ·rename_i ks kd ax hs hd h1
  cases ht
  exact z8 r.mem (a8 hft r h1) _ _ hs hd hh
 ·rename_i ax hs hd h1
  cases ht
  exact aAI r.mem (a8 hft r h1) _ _ hs hd hh
 ·rename_i k ax hs hd h1
  cases ht
  exact w9 r.mem (a8 hft r h1) _ _ hs hd hh
 ·rename_i e ax hs hd h1
  split at ht
  ·rename_i he
   cases ht
   exact aHI r.mem (a8 hft r h1) _ _ hs hd he hh
  ·cases ht
 ·rename_i e ax hs hd h1
  split at ht
  ·rename_i he
   cases ht
   exact aHP r.mem (a8 hft r h1) _ _ hs he hd hh
  ·cases ht
 ·cases ht
theorem aDK (fn:Fn) (first caps:Array Operand):dP P F B np w0 ext σ0 G s w (.ok (.value (.func fn (first.map a.eval) (caps.map a.eval))) w) (lB ft np fn first caps):=by
 intro ao xs ht _ id hnp hcl v u hh
 unfold lB at ht
 split at ht
 ·rename_i f
  split at ht
  ·rename_i hemp
   split at ht
   ·rename_i j cs hj hcs
    cases ht
    obtain ⟨h1,h2,h3⟩:=aDB hft r hcs
    have:=hft f j hj
    subst this
    have hd:=aAQ r.mem (evs s.fr xs) (caps.map a.eval) (by rw [h2,← h1]; simp) (fun k hk=>by
     have:=h3 k (by omega)
     rw [bI,Array.toList_map]
     exact this) id (bF (.mkfunc j np)) j hh
    have hf:first.map a.eval=#[]:=by
     have:first=#[]:=by simpa using hemp
     subst this
     simp
    rw [hf]
    exact hd
   ·cases ht
  ·cases ht
 ·cases ht
theorem aA3 (t:TypeId) (l c:Operand):dP P F B np w0 ext σ0 G s w (((Instr.makeSlice t (a.eval l) (a.eval c)).run P w).andThen fun v w=>.ok (.value v) w) (jY P ft t l c):=by
 intro ao xs ht _ id hnp hcl v u hh
 unfold jY at ht
 split at ht
 ·rename_i e hu
  split at ht
  ·rename_i i z ays hi hz hx
   split at ht
   ·rename_i hb
    cases ht
    obtain ⟨p,q,rfl,e1,e2⟩:=aEY hx
    obtain ⟨i',zv,hi',hzv,hds⟩:=gW hz
    rw [hi] at hi'
    cases hi'
    exact vZ r.mem (a8 hft r e1) (a8 hft r e2) hnp (by simp [bF]) hcl.free hu hi hzv hds hb.2.1 hb.1 hb.2.2 hh
   ·cases ht
  ·cases ht
 ·cases ht
theorem aLF (x:Operand) (t ty:TypeId):dP P F B np w0 ext σ0 G s w (((Builtin.len_ #[t] ty #[a.eval x]).run P w).andThen fun v w=>.ok (.value v) w) (aB7 P ft x t):=by
 intro ao xs ht _ id hnp hcl v u hh
 unfold aB7 at ht
 split at ht
 ·rename_i e ax hu h1
  cases ht
  exact aCA r.mem (a8 hft r h1) _ _ hh ⟨_,hu⟩
 ·rename_i ax hu h1
  cases ht
  exact aCA r.mem (a8 hft r h1) _ _ hh hu
 ·rename_i k e ax hu h1
  cases ht
  exact aB5 r.mem (a8 hft r h1) _ _ hu hh
 ·cases ht
theorem aHG (x y:Operand) (t u' ty:TypeId):dP P F B np w0 ext σ0 G s w (((Builtin.append_ #[t,u'] ty #[a.eval x,a.eval y]).run P w).andThen fun v w=>.ok (.value v) w) (nF P ft x y t u'):=by
 intro ao xs ht _ id hnp hcl v u hh
 unfold nF at ht
 split at ht
 ·rename_i e du l hu hu' hx
  split at ht
  ·rename_i i z hk hi hz
   split at ht
   ·rename_i hb
    cases ht
    obtain ⟨p,q,rfl⟩:=aJR hx
    obtain ⟨i',zv,hi',hzv,hds⟩:=gW hz
    rw [hi] at hi'
    cases hi'
    obtain ⟨h1,h2,h3⟩:=rH hft r hx
    exact aAN r.mem hu hu' hk hi hzv hds hb.2.1 hb.2.2 (h3 0 (by simp)) (h3 1 (by simp)) (by simp [bF]) hcl.free hh
   ·cases ht
  ·cases ht
 ·cases ht
theorem aFQ (b:Builtin) (args:Array Operand) (ts:Array TypeId) (ty:TypeId) (consts:Array Bool):dP P F B np w0 ext σ0 G s w ((builtin b ts ty consts (args.map a.eval)).run P w) (kO P ft b args.toList ts.toList):=by
 intro ao xs ht hnc id hnp hcl v u hh
 unfold kO at ht
 split at ht
 ·rename_i x t ha hts
  have ha:args=#[x]:=by rw [← Array.toArray_toList (xs:=args),ha]
  have hts:ts=#[t]:=by rw [← Array.toArray_toList (xs:=ts),hts]
  subst ha hts
  have:=aLF hft r x t ty ao xs ht hnc id hnp hcl v u hh
  rw [show #[a.eval x]=Array.map a.eval #[x] from by simp] at this
  simpa only [builtin,Sem.run_bind,Sem.run_pure] using this
 ·rename_i x y t u' ha hts
  have ha:args=#[x,y]:=by rw [← Array.toArray_toList (xs:=args),ha]
  have hts:ts=#[t,u']:=by rw [← Array.toArray_toList (xs:=ts),hts]
  subst ha hts
  have:=aHG hft r x y t u' ty ao xs ht hnc id hnp hcl v u hh
  rw [show #[a.eval x,a.eval y]=Array.map a.eval #[x,y] from by simp] at this
  simpa only [builtin,Sem.run_bind,Sem.run_pure] using this
 ·rename_i x y t u' ha hts
  have ha:args=#[x,y]:=by rw [← Array.toArray_toList (xs:=args),ha]
  have hts:ts=#[t,u']:=by rw [← Array.toArray_toList (xs:=ts),hts]
  subst ha hts
  unfold qS at ht
  split at ht
  ·rename_i z ax ay hm h1 h2
   cases ht
   obtain ⟨k,e,hu,hk,_⟩:=r7 hm
   have:=aCX r.mem (a8 hft r h1) (a8 hft r h2) id (bF .mapDel) (t2:=u') (ty:=ty) hu hk hh
   rw [show #[a.eval x,a.eval y]=Array.map a.eval #[x,y] from by simp] at this
   simpa only [builtin,Sem.run_bind,Sem.run_pure] using this
  ·cases ht
 ·rename_i _ x y ha
  have ha:args=#[x,y]:=by rw [← Array.toArray_toList (xs:=args),ha]
  subst ha
  rw [Option.map_eq_some_iff] at ht
  obtain ⟨l,hx,h⟩:=ht
  cases h
  obtain ⟨p,q,rfl,e1,e2⟩:=aEY hx
  have:=xK r.mem (a8 hft r e1) (a8 hft r e2) id (bF (.mnmx true)) true (at_:=ts) (ty:=ty) (P:=P) hh
  rw [show #[a.eval x,a.eval y]=Array.map a.eval #[x,y] from by simp] at this
  simpa only [builtin,Sem.run_bind,Sem.run_pure,if_true,Bool.false_eq_true,if_false] using this
 ·rename_i _ x y ha
  have ha:args=#[x,y]:=by rw [← Array.toArray_toList (xs:=args),ha]
  subst ha
  rw [Option.map_eq_some_iff] at ht
  obtain ⟨l,hx,h⟩:=ht
  cases h
  obtain ⟨p,q,rfl,e1,e2⟩:=aEY hx
  have:=xK r.mem (a8 hft r e1) (a8 hft r e2) id (bF (.mnmx false)) false (at_:=ts) (ty:=ty) (P:=P) hh
  rw [show #[a.eval x,a.eval y]=Array.map a.eval #[x,y] from by simp] at this
  simpa only [builtin,Sem.run_bind,Sem.run_pure,if_true,Bool.false_eq_true,if_false] using this
 ·cases ht
theorem aI9 (c:Call) (ty:TypeId):dP P F B np w0 ext σ0 G s w ((do let d ← resolve a.eval c ty; invoke d.target d.args:Sem Next).run P w) (m4 P ft np c):=by
 intro ao xs ht hnc id hnp hcl v u hh
 obtain ⟨callee,args,ts⟩:=c
 unfold m4 at ht
 split at ht
 ·split at ht
  ·cases ht
   rw [s4] at hnc
   cases hnc
  ·cases ht
 ·rw [Option.map_eq_some_iff] at ht
  obtain ⟨l,_,h⟩:=ht
  cases h
  cases hnc
 ·rename_i b hb
  simp only at hb
  subst hb
  simp only [resolve,invoke,Sem.run_bind,Sem.run_pure,Result.andThen_ok]
  exact aFQ hft r b args ts ty _ ao xs ht hnc id hnp hcl v u hh
 ·cases ht
theorem aB0 (t:TypeId) (x y z:Operand):dP P F B np w0 ext σ0 G s w (((Instr.mapUpdate t (a.eval x) (a.eval y) (a.eval z)).run P w).andThen fun _ w=>.ok .skip w) (kQ P ft t x y z):=by
 intro ao xs ht _ id hnp hcl v u hh
 unfold kQ at ht
 split at ht
 ·rename_i p ax ay az hm h1 h2 h3
  cases ht
  obtain ⟨k,e,hu,hk,he⟩:=r7 (g:=p.1) (z:=p.2) hm
  exact aBN r.mem (a8 hft r h1) (a8 hft r h2) (aAJ (a8 hft r h3) _) _ _ hu hk hh
 ·cases ht
end ops
theorem aHB (hft:∀ f j,ag ft f=some j→F j=f) (r:Rel F B np w0 ext σ0 G s a w) (o:Oper):dP P F B np w0 ext σ0 G s w ((execOp a.eval o).run P w) (xT P ft np o):=by
 cases hop:o.op <;> simp only [xT,execOp,hop,Sem.run_bind,Sem.run_pure]
 case move x=>exact aHM hft r _ x
 case assign x=>exact aHM hft r _ x
 case alloc t=>exact aJ2 hft r t
 case build t parts=>exact aJN hft r t parts
 case buildSlice t len parts=>exact zF hft r t len parts
 case load t x=>exact aKY hft r t x
 case store t x y=>exact aJ8 hft r t x y
 case binOp op t x y ty=>simpa only [Sem.run_bind] using aLN hft r op t x y
 case convert src dst x=>exact aKP hft r src dst x
 case makeFunc fn first caps =>
  simp only [Instr.makeFunc,Sem.run_pure,Result.andThen_ok]
  exact aDK hft r fn first caps
 case makeSlice t l c=>exact aA3 hft r t l c
 case slice t x lo hi mx=>exact aJI hft r t x lo hi mx
 case fieldAddr st x f=>exact aAT hft r st x f
 case field st x f=>exact aJJ hft r st x f
 case indexAddr t x i=>exact aA1 hft r t x i
 case index t x i=>exact aJV hft r t x i
 case call c=>simpa only [Sem.run_bind] using aI9 hft r c o.type
 case pick c x y =>
  intro ao xs ht _ id hnp hcl v u hh
  rw [Option.map_eq_some_iff] at ht
  obtain ⟨l,h1,h⟩:=ht
  cases h
  obtain ⟨p,q,t,rfl,e1,e2,e3⟩:=aLK h1
  exact aG4 r.mem (a8 hft r e1) (a8 hft r e2) (a8 hft r e3) _ _ hh
 case box t x =>
  intro ao xs ht _ id hnp hcl v u hh
  rw [Option.map_eq_some_iff] at ht
  obtain ⟨ax,h1,h⟩:=ht
  cases h
  exact aIF r.mem (a8 hft r h1) (by simp [bF]) hcl.free (aI3 hcl h1) t hh
 case nilCheck x =>
  intro ao xs ht _ id hnp hcl v u hh
  rw [Option.map_eq_some_iff] at ht
  obtain ⟨ax,h1,h⟩:=ht
  cases h
  obtain ⟨b,o',hx,hd⟩:=xE r.mem (a8 hft r h1) id _ hh
  rw [hx] at hd ⊢
  exact hd
 case unOp op t x =>
  intro ao xs ht _ id hnp hcl v u hh
  rw [Option.map_eq_some_iff] at ht
  obtain ⟨ax,h1,h⟩:=ht
  cases h
  exact aJZ r.mem (a8 hft r h1) _ _ op hh
 case extract x i =>
  intro ao xs ht _ id hnp hcl v u hh
  rw [Option.map_eq_some_iff] at ht
  obtain ⟨ax,h1,h⟩:=ht
  cases h
  exact zB r.mem (a8 hft r h1) _ _ i hh
 case makeMap t x =>
  intro ao xs ht _ id hnp hcl v u hh
  cases hf:(r6 P t&&x.isNone) with
  | true =>
   rw [hf] at ht
   obtain ⟨_,hx⟩:=dV hf
   cases x with
   | some x=>cases hx
   | none =>
    cases ht
    exact uM r.mem hnp (by simp [bF]) hcl.free t _ _ hh
  | false =>
   rw [hf] at ht
   simp only [cond_false] at ht
   unfold n4 at ht
   split at ht
   ·cases ht
    exact uM r.mem hnp (by simp [bF]) hcl.free t _ _ hh
   ·cases ht
 case mapUpdate t x y z =>
  cases hf:r6 P t with
  | false=>exact aB0 hft r t x y z
  | true =>
   intro ao xs ht _ id hnp hcl v u hh
   simp only [cond_true] at ht
   unfold uA at ht
   split at ht
   ·rename_i ax ay az h1 h2 h3
    cases ht
    exact aBD r.mem (a8 hft r h1) (a8 hft r h2) (a8 hft r h3) _ _ hf hh
   ·cases ht
 case insert t x y z=>exact aB0 hft r t x y z
 case lookup t x y c =>
  intro ao xs ht _ id hnp hcl v u hh
  cases hf:r6 P t with
  | true =>
   rw [hf] at ht
   simp only [cond_true] at ht
   unfold uY at ht
   split at ht
   ·rename_i ax ay h1 h2
    cases ht
    exact aCE r.mem (a8 hft r h1) (a8 hft r h2) _ _ hf hh
   ·cases ht
  | false =>
  rw [hf] at ht
  simp only [cond_false] at ht
  unfold qJ at ht
  split at ht
  ·rename_i g z ax ay hm h1 h2
   cases ht
   obtain ⟨k,e,hu,hk,he⟩:=r7 hm
   exact aBA r.mem (a8 hft r h1) (a8 hft r h2) hcl.free hu hk c (fun hg=>by subst hg; simp only [bF]; omega) he hh
  ·cases ht
 case range t x =>
  intro ao xs ht _ id hnp hcl v u hh
  unfold zM at ht
  split at ht
  ·rename_i ax hu h1
   cases ht
   exact zC r.mem (a8 hft r h1) (by simp [bF]) hcl.free hu hh
  ·rename_i k e ax hu h1
   split at ht
   ·cases ht
    exact zP r.mem (a8 hft r h1) (by simp [bF]) hcl.free hu hh
   ·cases ht
  ·cases ht
 case next x isS =>
  intro ao xs ht _ id hnp hcl v u hh
  rw [Option.map_eq_some_iff] at ht
  obtain ⟨ax,h1,h⟩:=ht
  cases h
  cases isS with
  | false=>exact (aC hh).elim
  | true=>exact zG r.mem (a8 hft r h1) _ _ _ hh
 case entry x =>
  intro ao xs ht _ id hnp hcl v u hh
  rw [Option.map_eq_some_iff] at ht
  obtain ⟨ax,h1,h⟩:=ht
  cases h
  exact wZ r.mem (a8 hft r h1) _ _ hh
 all_goals
  intro ao xs ht
  cases ht
theorem xI {t:Option (AOp×List AX)} {ao:AOp} {xs:List AX} (h:z6 t=some (ao,xs)):t=some (ao,xs)∨(ao=.stuck∧xs=[]):=by
 unfold z6 at h
 split at h
 ·exact .inl h
 ·cases h
  exact .inr ⟨rfl,rfl⟩
theorem pS {o:Oper} {ao:AOp} {xs:List AX} (h:aDE P ft np o=some (ao,xs)):(∃ c,o.op=.call c∧m4 P ft np c=some (ao,xs))∨(xT P ft np o=some (ao,xs)∧mS ao=false)∨(ao=.stuck∧xs=[]):=by
 unfold aDE at h
 split at h
 ·rename_i c hc
  rcases xI h with h | h
  ·exact .inl ⟨c,hc,h⟩
  ·exact .inr (.inr h)
 ·split at h
  ·rename_i p hp
   cases hi:mS p.1 with
   | true=>rw [hi] at h; cases h
   | false =>
    rw [hi] at h
    cases h
    exact .inr (.inl ⟨hp,hi⟩)
  ·cases h
   exact .inr (.inr ⟨rfl,rfl⟩)
theorem aJG (hft:∀ f j,ag ft f=some j→F j=f) (r:Rel F B np w0 ext σ0 G s a w) (o:Oper):dP P F B np w0 ext σ0 G s w ((execOp a.eval o).run P w) (aDE P ft np o):=by
 intro ao xs ht hnc
 rcases pS ht with ⟨c,hc,h⟩ | ⟨h,_⟩ | ⟨rfl,rfl⟩
 ·have h1:=aI9 hft r c o.type ao xs h hnc
  simp only [Sem.run_bind] at h1
  simpa only [execOp,hc,Sem.run_bind] using h1
 ·exact aHB hft r o ao xs h hnc
 ·intro id hnp hcl v u hh
  exact (aC hh).elim
end
section
variable {P:Program} {ft:FT} {np:Nat} {hp:Nat→Option (Bool×List D)} {tk:Nat→Option (Nat×Nat)} {lo hi id:Nat}
theorem aX {l:List D}:names lo hi l=false↔∀ d∈l,d.names1 lo hi=false:=by
 induction l with
 | nil=>simp [names]
 | cons d l ih =>
  simp only [names,List.mem_cons,forall_eq_or_imp]
  cases d.names1 lo hi with
  | true=>simp
  | false=>simp [ih]
theorem aT {lo hi j:Nat} (h:¬(lo≤j∧j < hi)):(Nat.ble lo j&&Nat.blt j hi)=false:=by
 cases hh:(Nat.ble lo j&&Nat.blt j hi) with
 | false=>rfl
 | true =>
  simp only [Bool.and_eq_true,Nat.ble_eq,Nat.blt_eq] at hh
  exact absurd hh h
theorem zS {l:List D} {i:Nat} {a d:D} (h:d∈upd l i a):d=a∨d∈l:=by
 induction l generalizing i with
 | nil=>simp [upd] at h
 | cons e l ih =>
  cases i with
  | zero =>
   simp only [upd,List.mem_cons] at h
   rcases h with h | h
   ·exact .inl h
   ·exact .inr (List.mem_cons_of_mem _ h)
  | succ i =>
   simp only [upd,List.mem_cons] at h
   rcases h with h | h
   ·exact .inr (by simp [h])
   ·rcases ih h with h | h
    ·exact .inl h
    ·exact .inr (List.mem_cons_of_mem _ h)
theorem lE {ds:List D}:∀ {cs:List D} {o:Nat} {d:D},d∈dZ cs o ds→d∈cs∨d∈ds:=by
 induction ds with
 | nil=>intro cs o d h; exact .inl h
 | cons a ds ih =>
  intro cs o d h
  simp only [dZ] at h
  rcases ih h with h | h
  ·rcases zS h with h | h
   ·exact .inr (by simp [h])
   ·exact .inl h
  ·exact .inr (List.mem_cons_of_mem _ h)
theorem cX (d:D):d.pure1.names1 lo hi=false:=by cases d <;> rfl
theorem f0 {l:List D} {d:D} (h:d∈aM l):∃ e∈l,d=e.pure1:=by
 induction l with
 | nil=>simp [aM] at h
 | cons a l ih =>
  simp only [aM,List.mem_cons] at h
  rcases h with h | h
  ·exact ⟨a,by simp,h⟩
  ·obtain ⟨e,h1,h2⟩:=ih h
   exact ⟨e,List.mem_cons_of_mem _ h1,h2⟩
theorem aE0 {l:List D} {d:D} (h:d∈ros l):∃ e∈l,d=e.ro1:=by
 induction l with
 | nil=>simp [ros] at h
 | cons a l ih =>
  simp only [ros,List.mem_cons] at h
  rcases h with h | h
  ·exact ⟨a,by simp,h⟩
  ·obtain ⟨e,h1,h2⟩:=ih h
   exact ⟨e,List.mem_cons_of_mem _ h1,h2⟩
theorem aFY {d:D} (h:d.names1 lo hi=false):d.ro1.names1 lo hi=false:=by
 cases d with
 | slice t z n g=>cases t <;> rfl
 | _=>exact h
theorem dE (l:List D):names lo hi (aM l)=false:=aX.2 fun d hd=>by
 obtain ⟨e,_,rfl⟩:=f0 hd
 exact cX e
theorem aFM {l:List D} (h:names lo hi l=false):names lo hi (ros l)=false:=aX.2 fun d hd=>by
 obtain ⟨e,he,rfl⟩:=aE0 hd
 exact aFY (aX.1 h e he)
theorem aFW {d:D} (h:d.names lo hi=false):d.names1 lo hi=false:=by
 cases d with
 | agg l=>rfl
 | tup l=>rfl
 | _=>exact h
theorem rB {l:List D} {j:Nat}:nth l j .dead∈l∨nth l j .dead=.dead:=by
 by_cases hj:j < l.length
 ·exact .inl (by rw [dK l _ hj]; exact List.getElem_mem hj)
 ·exact .inr (iE l _ (Nat.le_of_not_lt hj))
theorem aC0:∀ {qs:List (Nat×Nat)} {xs cells l:List D},fill cells qs xs=some l→∀ d∈l,d∈cells∨∃ x∈xs,d∈x.cells
 | [],[],cells,l,h,d,hd=>by cases h; exact .inl hd
 | [],_::_,_,_,h,_,_=>by simp [fill] at h
 | _::_,[],_,_,h,_,_=>by simp [fill] at h
 | (off,size)::qs,x::xs,cells,l,h,d,hd=>by
  simp only [fill] at h
  cases hb:(aI x.cells&&Nat.beq x.cells.length size&&Nat.ble (off+size) cells.length) with
  | false=>rw [hb] at h; cases h
  | true =>
   rw [hb] at h
   rcases aC0 h d hd with h1 | ⟨y,h1,h2⟩
   ·rcases lE h1 with h3 | h3
    ·exact .inl h3
    ·exact .inr ⟨x,by simp,h3⟩
   ·exact .inr ⟨y,List.mem_cons_of_mem _ h1,h2⟩
def Cell:D→Prop
 | .agg _=>False
 | .tup _=>False
 | _=>True
theorem Cell.names {d:D} (h:Cell d) (h1:d.names1 lo hi=false):d.names lo hi=false:=by
 cases d <;> first | exact h1 | exact h.elim
theorem c5 (d:D):Cell d.pure1:=by cases d <;> trivial
def xV (lo hi:Nat):D→Prop
 | .agg l=>∀ e∈l,Cell e
 | .tup l=>∀ e∈l,match e with
  | .agg c=>names lo hi c=false
  | .tup _=>False
  | _=>True
 | _=>True
theorem gQ {l:List D} (h:aI l=true):∀ e∈l,Cell e:=by
 induction l with
 | nil=>simp
 | cons d l ih =>
  intro e he
  simp only [List.mem_cons] at he
  rcases he with rfl | he
  ·cases e <;> first | trivial | simp [aI] at h
  ·refine ih ?_ e he
   cases d <;> first | exact h | simp [aI] at h
theorem cH {g:Bool} {n:Nat} {l:List D} {v:D} {u:Upd} (h:(cC g n l).holds v u) (h1:names lo hi l=false) (h2:∀ e∈l,Cell e):v.names lo hi=false∧u=Upd.none:=by
 unfold cC at h
 cases hb:Nat.ble n l.length with
 | false=>rw [hb] at h; exact (aC h).elim
 | true =>
  rw [hb] at h
  obtain ⟨rfl,rfl⟩:=aF h
  refine ⟨?_,rfl⟩
  have h3:names lo hi (l.take n)=false:=aX.2 fun d hd=>aX.1 h1 d (List.mem_of_mem_take hd)
  cases g with
  | true=>exact h3
  | false =>
   simp only [mkv,cond_false]
   rcases rB (l:=l.take n) (j:=0) with h4 | h4
   ·exact (h2 _ (List.mem_of_mem_take h4)).names (aX.1 h3 _ h4)
   ·rw [h4]; rfl
theorem lZ {l:List D} (h:names lo hi l=false) (n:Nat):names lo hi (l.drop n)=false:=aX.2 fun d hd=>aX.1 h d (List.mem_of_mem_drop hd)
theorem sM:∀ (l:List D) (i:Nat),(∀ d∈l,(∃ t z n g,d=.slice t z n g)∨d.names1 lo hi=false)→(∀ d∈l,∀ j z n g,d=.slice (.own j) z n g→True)→(i+l.length≤lo∨hi≤i)→names lo hi (cJ l i)=false∧∀ x∈aW l i,¬(lo≤x.1∧x.1 < hi)
 | [],i,_,_,_=>⟨rfl,fun x hx=>by simp [aW] at hx⟩
 | d::l,i,h,h',hl=>by
  simp only [List.length_cons] at hl
  obtain ⟨e1,e2⟩:=sM l (i+1) (fun d hd=>h d (List.mem_cons_of_mem _ hd)) (fun _ _ _ _ _ _ _=>trivial) (by omega)
  have h0:=h d (by simp)
  have other:d.names1 lo hi=false→names lo hi (d::cJ l (i+1))=false:=fun hd=>aX.2 fun x hx=>by
   simp only [List.mem_cons] at hx
   rcases hx with rfl | hx
   ·exact hd
   ·exact aX.1 e1 x hx
  cases d with
  | slice t z n g =>
   cases t with
   | own j =>
    refine ⟨aX.2 fun x hx=>?_,fun x hx=>?_⟩
    ·simp only [cJ,List.mem_cons] at hx
     rcases hx with rfl | hx
     ·exact aT (by omega)
     ·exact aX.1 e1 x hx
    ·simp only [aW,List.mem_cons] at hx
     rcases hx with rfl | hx
     ·simp only; omega
     ·exact e2 x hx
   | ro=>exact ⟨other rfl,e2⟩
   | full=>exact ⟨other rfl,e2⟩
  | ptr j o=>exact ⟨other (by rcases h0 with ⟨_,_,_,_,h0⟩ | h0; cases h0; exact h0),e2⟩
  | int k n=>exact ⟨other rfl,e2⟩
  | bool k=>exact ⟨other rfl,e2⟩
  | str k=>exact ⟨other rfl,e2⟩
  | agg k=>exact ⟨other rfl,e2⟩
  | nilm=>exact ⟨other rfl,e2⟩
  | obj=>exact ⟨other rfl,e2⟩
  | oref j _ _=>exact ⟨other (by rcases h0 with ⟨_,_,_,_,h0⟩ | h0; cases h0; exact h0),e2⟩
  | oagg j _ _ _=>exact ⟨other (by rcases h0 with ⟨_,_,_,_,h0⟩ | h0; cases h0; exact h0),e2⟩
  | osl j _ _=>exact ⟨other (by rcases h0 with ⟨_,_,_,_,h0⟩ | h0; cases h0; exact h0),e2⟩
  | kseq _ j _ _=>exact ⟨other (by rcases h0 with ⟨_,_,_,_,h0⟩ | h0; cases h0; exact h0),e2⟩
  | mit j _ _ _ _ _=>exact ⟨other (by rcases h0 with ⟨_,_,_,_,h0⟩ | h0; cases h0; exact h0),e2⟩
  | tup k=>exact ⟨other rfl,e2⟩
  | eptr k=>exact ⟨other rfl,e2⟩
  | nilp=>exact ⟨other rfl,e2⟩
  | ubool=>exact ⟨other rfl,e2⟩
  | fn k n=>exact ⟨other rfl,e2⟩
  | dead=>exact ⟨other rfl,e2⟩
  | mp va n ks vs=>exact ⟨other rfl,e2⟩
  | newp l=>exact ⟨other rfl,e2⟩
  | arr w z n g=>exact ⟨other rfl,e2⟩
  | mref j=>exact ⟨other (by rcases h0 with ⟨_,_,_,_,h0⟩ | h0; cases h0; exact h0),e2⟩
  | msl j z n=>exact ⟨other (by rcases h0 with ⟨_,_,_,_,h0⟩ | h0; cases h0; exact h0),e2⟩
  | rptr j z n i o=>exact ⟨other (by rcases h0 with ⟨_,_,_,_,h0⟩ | h0; cases h0; exact h0),e2⟩
theorem jU {d:D} (h:uB d=true):d.names1 lo hi=false:=by
 cases d with
 | slice t z n g=>cases t <;> first | rfl | cases h
 | _=>first | rfl | cases h
theorem rQ:∀ {l:List D} {i:Nat} {d:D},d∈iJ l i→(∃ q z n g,q < l.length∧d=.slice (.own (i+q)) z n g)∨∃ x,d=D.pure1 x
 | [],_,_,h=>by cases h
 | x::l,i,d,h=>by
  have rest:d∈iJ l (i+1)→(∃ q z n g,q < (x::l).length∧d=.slice (.own (i+q)) z n g)∨∃ x,d=D.pure1 x:=fun h=>by
   rcases rQ h with ⟨q,z,n,g,h1,h2⟩ | h
   ·exact .inl ⟨q+1,z,n,g,by simpa using h1,by rw [h2,show i+1+q=i+(q+1) from by omega]⟩
   ·exact .inr h
  cases x with
  | slice t z n g =>
   rcases List.mem_cons.1 h with rfl | h
   ·exact .inl ⟨0,z,n,g,by simp,rfl⟩
   ·exact rest h
  | _ =>
   rcases List.mem_cons.1 h with rfl | h
   ·exact .inr ⟨_,rfl⟩
   ·exact rest h
theorem rN:∀ {l:List D} {i:Nat} {y:Nat×Nat×Nat},y∈iB l i→i≤y.1∧y.1 < i+l.length
 | [],_,_,h=>by cases h
 | x::l,i,y,h=>by
  have rest:y∈iB l (i+1)→i≤y.1∧y.1 < i+(x::l).length:=fun h=>by
   have:=rN h
   rw [List.length_cons]
   omega
  cases x with
  | slice t z n g =>
   rcases List.mem_cons.1 h with rfl | h
   ·rw [List.length_cons]
    simp only
    omega
   ·exact rest h
  | _=>exact rest h
theorem pY:∀ {l:List D} {u:List (Nat×Nat×Nat)} {p:Prop},qL tk l=some (u,p)→∀ y∈u,∃ e,tk y.1=some e
 | [],u,p,h,y,hy=>by
  simp only [qL,Option.some.injEq,Prod.mk.injEq] at h
  rw [← h.1] at hy
  cases hy
 | d::l,u,p,h,y,hy=>by
  cases d with
  | slice t z n g =>
   cases t with
   | ro=>simp [qL] at h
   | full=>exact pY (l:=l) h y hy
   | own j =>
    simp only [qL] at h
    split at h
    ·rename_i z' n' p' hj hl
     cases hb:Nat.beq z' z with
     | false=>rw [hb] at h; cases h
     | true =>
      rw [hb] at h
      simp only [cond_true,Option.some.injEq,Prod.mk.injEq] at h
      rw [← h.1] at hy
      rw [List.mem_singleton.1 hy]
      exact ⟨_,hj⟩
    ·cases h
  | _=>exact pY (l:=l) h y hy
theorem lJ:∀ (l:List D) (ds:List D) (u:List (Nat×Bool×List D)),freeze np hp l=some (ds,u)→(∀ i f cs,hp i=some (f,cs)→¬(lo≤i∧i < hi))→∀ x∈u,¬(lo≤x.1∧x.1 < hi)∧names lo hi x.2.2=false
 | [],ds,u,h,_,x,hx=>by simp only [freeze,Option.some.injEq,Prod.mk.injEq] at h; rw [← h.2] at hx; simp at hx
 | d::l,ds,u,h,hh,x,hx=>by
  have other:(match freeze np hp l with | some (ds,u)=>bif aI [d] then some (d.pure::ds,u) else none | none=>none)=some (ds,u)→¬(lo≤x.1∧x.1 < hi)∧names lo hi x.2.2=false:=by
   intro h
   cases hf:freeze np hp l with
   | none=>simp [hf] at h
   | some p =>
    obtain ⟨ds',u'⟩:=p
    simp only [hf] at h
    cases hs:aI [d] with
    | false=>rw [hs] at h; cases h
    | true =>
     rw [hs] at h
     cases h
     exact lJ l _ _ hf hh x hx
  cases d with
  | ptr i off =>
   simp only [freeze] at h
   cases hi':hp i with
   | none=>simp [hi'] at h
   | some e =>
    obtain ⟨f,cs⟩:=e
    cases hf:freeze np hp l with
    | none=>simp [hi',hf] at h
    | some p =>
     obtain ⟨ds',u'⟩:=p
     simp only [hi',hf] at h
     cases hb:((f || aI cs)&&Nat.ble np i) with
     | false=>rw [hb] at h; cases h
     | true =>
      rw [hb] at h
      cases h
      simp only [List.mem_cons] at hx
      rcases hx with rfl | hx
      ·exact ⟨hh i _ _ hi',dE _⟩
      ·exact lJ l _ _ hf hh x hx
  | fn f c=>simp [freeze] at h
  | _=>exact other h
theorem qF {sz bytes:Nat} {t:Tag} {z n:Nat} {g:Nat→List D} {m:Nat} {k:Nat→List D} {v:D} {u:Upd} (h:(dF id sz bytes tk t z n g m k).holds v u) (hid:¬(lo≤id∧id < hi)) (ht:∀ i e,tk i=some e→¬(lo≤i∧i < hi)) :
  v.names lo hi=false∧(∀ x∈u.h,¬(lo≤x.1∧x.1 < hi)∧names lo hi x.2.2=false)∧∀ x∈u.t,¬(lo≤x.1∧x.1 < hi):=by
 unfold dF at h
 cases hb:Nat.beq z sz with
 | false=>rw [hb] at h; exact (aC h).elim
 | true =>
  rw [hb] at h
  simp only [Bool.not_true,cond_false] at h
  split at h
  ·rename_i i
   split at h
   ·rename_i z' n' hi'
    have h1:=ht i _ hi'
    cases hb2:Nat.beq z' sz with
    | false=>rw [hb2] at h; exact (aC h).elim
    | true =>
     rw [hb2] at h
     obtain ⟨_,rfl,rfl⟩:=aS h
     refine ⟨aT h1,fun y hy=>by simp at hy,fun y hy=>?_⟩
     simp only [List.mem_singleton] at hy
     subst hy
     exact h1
   ·exact (aC h).elim
  ·obtain ⟨_,rfl,rfl⟩:=aS h
   refine ⟨aT (by omega),fun y hy=>by simp at hy,fun y hy=>?_⟩
   simp only [List.mem_singleton] at hy
   subst hy
   simp only
   omega
  ·exact (aC h).elim
theorem sG {op:BinOp} {x y v:D} {u:Upd} (h:(bin op x y).holds v u):v.names lo hi=false∧u=Upd.none:=by
 unfold bin at h
 split at h
 ·rename_i k a k' b
  cases hs:nV op with
  | true =>
   rw [hs] at h
   simp only [cond_true] at h
   unfold vM at h
   split at h
   ·obtain ⟨_,rfl,rfl⟩:=aK h; exact ⟨rfl,rfl⟩
   ·obtain ⟨_,rfl,rfl⟩:=aK h; exact ⟨rfl,rfl⟩
   ·exact (aC h).elim
  | false =>
   rw [hs] at h
   simp only [cond_false] at h
   cases hk:kD k k' with
   | false=>rw [hk] at h; exact (aC h).elim
   | true =>
    rw [hk] at h
    simp only [cond_true] at h
    unfold zL at h
    split at h
    all_goals first
     | exact (aC h).elim
     | (obtain ⟨rfl,rfl⟩:=aF h; exact ⟨rfl,rfl⟩)
     | (obtain ⟨_,rfl,rfl⟩:=aK h; exact ⟨rfl,rfl⟩)
 ·unfold zY at h
  split at h
  all_goals first
   | exact (aC h).elim
   | (obtain ⟨rfl,rfl⟩:=aF h; exact ⟨rfl,rfl⟩)
   | (obtain ⟨_,rfl,rfl⟩:=aK h; exact ⟨rfl,rfl⟩)
 ·exact (aC h).elim
theorem aQ {c:Bool} {o:Out} {v:D} {u:Upd} (h:(bif c then o else Out.bad).holds v u):c=true∧o.holds v u:=by
 cases c with
 | true=>exact ⟨rfl,h⟩
 | false=>exact (aC h).elim
theorem c6 {c:Bool} {o:Out} {v:D} {u:Upd} (h:(bif !c then Out.bad else o).holds v u):c=true∧o.holds v u:=by
 cases c with
 | true=>exact ⟨rfl,h⟩
 | false=>exact (aC h).elim
theorem pZ (comma va ok:Bool) (l:List D):(gU comma va ok l).names lo hi=false:=by
 have e:(mkv va (aM l)).names lo hi=false∧(mkv va (aM l)).names1 lo hi=false:=by
  cases va with
  | true=>exact ⟨dE l,rfl⟩
  | false =>
   simp only [mkv,cond_false]
   rw [aU]
   exact ⟨(c5 _).names (cX _),cX _⟩
 cases comma with
 | false=>exact e.1
 | true =>
  simp only [gU,cond_true,D.names]
  refine aX.2 fun d hd=>?_
  simp only [List.mem_cons,List.not_mem_nil,or_false] at hd
  rcases hd with rfl | rfl
  ·exact e.2
  ·rfl
theorem vJ (va:Bool) (l:List D):(mkv va (aM l)).names1 lo hi=false:=by
 cases va with
 | true=>rfl
 | false =>
  simp only [mkv,cond_false]
  rw [aU]
  exact cX _
def UpdOk (lo hi:Nat) (u:Upd):Prop:=(∀ x∈u.h,¬(lo≤x.1∧x.1 < hi)∧names lo hi x.2.2=false)∧u.t=[]
theorem UpdOk.none:UpdOk lo hi Upd.none:=⟨fun x hx=>by simp [Upd.none] at hx,rfl⟩
theorem UpdOk.one {i:Nat} {f:Bool} {cs:List D} (h:¬(lo≤i∧i < hi)) (hn:names lo hi cs=false):UpdOk lo hi ⟨[(i,f,cs)],[]⟩ :=
 ⟨fun x hx=>by
  simp only [List.mem_singleton] at hx
  subst hx
  exact ⟨h,hn⟩,rfl⟩
theorem w3 {g:Bool} {n i off:Nat} {e:Bool×List D} {v:D} {u:Upd} (h:(nT g n i off e).holds v u) (hi':¬(lo≤i∧i < hi)):v.names lo hi=false∧u=Upd.none:=by
 unfold nT at h
 split at h
 ·obtain ⟨_,rfl,rfl⟩:=aK h
  cases g <;> exact ⟨aT hi',rfl⟩
 ·exact (aC h).elim
theorem nH {n i off:Nat} {e:Bool×List D} {x v:D} {u:Upd} (h:(kM hp n i off e x).holds v u) (hi':¬(lo≤i∧i < hi)) (hx:x.names lo hi=false):v=.dead∧UpdOk lo hi u:=by
 unfold kM at h
 split at h
 ·rename_i q
  obtain ⟨_,h⟩:=aQ h
  unfold objSet at h
  split at h
  ·obtain ⟨_,rfl,rfl⟩:=aK h
   refine ⟨rfl,fun y hy=>?_,rfl⟩
   simp only [List.mem_cons,List.not_mem_nil,or_false] at hy
   rcases hy with rfl | rfl
   ·exact ⟨hi',rfl⟩
   ·exact ⟨bC hx,rfl⟩
  ·exact (aC h).elim
 ·exact (aC h).elim
theorem aDU {o:AOp} {args:List D} {v:D} {u:Upd} (h:(jN o id hp args).holds v u) (ha:∀ d∈args,d.names lo hi=false∧xV lo hi d)
  (hh:∀ i f cs,hp i=some (f,cs)→¬(lo≤i∧i < hi)∧names lo hi cs=false∧∀ e∈cs,Cell e) (hid:¬(lo≤id∧id < hi)) :
  v.names lo hi=false∧UpdOk lo hi u:=by
 unfold jN at h
 split at h
 ·unfold aHT at h
  split at h
  ·obtain ⟨_,h⟩:=aQ h
   obtain ⟨rfl,rfl⟩:=aF h
   exact ⟨rfl,.none⟩
  ·exact (aC h).elim
 ·rename_i i j b k x
  unfold aID at h
  split at h
  ·rename_i hi'
   obtain ⟨_,h⟩:=aQ h
   obtain ⟨_,rfl,rfl⟩:=aK h
   exact ⟨rfl,.one (hh _ _ _ hi').1 rfl⟩
  ·exact (aC h).elim
 ·rename_i i j b kx ky q
  unfold qO at h
  split at h
  ·rename_i mm c va nl n ks vs va' ks' vs' hi hq
   cases hc:(jk mm j || Nat.beq q i) with
   | true=>rw [hc] at h; exact (aC h).elim
   | false =>
    rw [hc] at h
    obtain ⟨_,rfl,rfl⟩:=aK h
    refine ⟨rfl,fun y hy=>?_,rfl⟩
    simp only [List.mem_cons,List.not_mem_nil,or_false] at hy
    rcases hy with rfl | rfl
    ·exact ⟨(hh _ _ _ hi).1,rfl⟩
    ·exact ⟨(hh _ _ _ hq).1,rfl⟩
  ·exact (aC h).elim
 ·unfold aHO at h
  split at h
  ·obtain ⟨_,h⟩:=aQ h
   rcases bV h with ⟨_,rfl,rfl⟩ | ⟨_,rfl,rfl⟩
   ·exact ⟨pZ _ _ _ _,.none⟩
   ·exact ⟨pZ _ _ _ _,.none⟩
  ·exact (aC h).elim
 ·rename_i i j b kx ky
  unfold qC at h
  split at h
  ·rename_i mm c va nl n ks vs hi0
   cases hc:jk mm j with
   | true=>rw [hc] at h; exact (aC h).elim
   | false =>
    rw [hc] at h
    obtain ⟨rfl,rfl⟩:=aF h
    have hi':D.names1 lo hi (.oref i j b)=false:=(ha (.oref i j b) (by simp)).1
    exact ⟨hi',.none⟩
  ·exact (aC h).elim
 ·unfold aIG at h
  split at h
  ·rename_i hi'
   obtain ⟨_,h⟩:=aQ h
   obtain ⟨rfl,rfl⟩:=aV h
   exact ⟨rfl,.one (hh _ _ _ hi').1 rfl⟩
  ·exact (aC h).elim
 ·rename_i i j b
  unfold aA2 at h
  split at h
  ·obtain ⟨_,h⟩:=aQ h
   obtain ⟨rfl,rfl⟩:=aV h
   have hi':D.names1 lo hi (.oref i j b)=false:=(ha (.oref i j b) (by simp)).1
   refine ⟨aT hid,.one hid ?_⟩
   have:D.names1 lo hi (.mit i j b 0 (fun _=>false) none)=false:=hi'
   simp only [names]
   rw [show D.names1 lo hi .dead=false from rfl]
   simp only [cond_false]
   rw [show ∀ c k q,D.names1 lo hi (.mit i j b c k q)=D.names1 lo hi (.oref i j b) from fun _ _ _=>rfl,hi']
   rfl
  ·exact (aC h).elim
 ·unfold vI at h
  split at h
  ·split at h
   ·obtain ⟨_,rfl,rfl⟩:=aS h
    refine ⟨aX.2 fun d hd=>?_,.none⟩
    simp only [List.mem_cons,List.not_mem_nil,or_false] at hd
    rcases hd with rfl | rfl
    ·rfl
    ·exact vJ _ _
   ·exact (aC h).elim
  ·exact (aC h).elim
 ·obtain ⟨rfl,rfl⟩:=aF h
  exact ⟨rfl,.none⟩
 ·obtain ⟨rfl,rfl⟩:=aF h
  exact ⟨rfl,.none⟩
 ·obtain ⟨rfl,rfl⟩:=aF h
  exact ⟨rfl,.none⟩
 ·rename_i g z len k off m nl kd i
  have h:(bif !(!(g || !(Nat.beq z 1))) then Out.bad else Out.chk (decide (0≤i)&&decide (i < len)&&Nat.ble len m) (.oref k (off+i.toNat) (nl (off+i.toNat))) Upd.none).holds v u:=by rw [Bool.not_not]; exact h
  obtain ⟨_,h⟩:=c6 h
  obtain ⟨_,rfl,rfl⟩:=aK h
  exact ⟨(ha (.oagg k off m nl) (by simp)).1,.none⟩
 ·rename_i len lo' hi' i off r
  split at h
  ·split at h
   ·split at h
    ·obtain ⟨_,rfl,rfl⟩:=aK h
     exact ⟨(ha (.ptr i off) (by simp)).1,.none⟩
    ·exact (aC h).elim
   ·exact (aC h).elim
  ·exact (aC h).elim
 ·obtain ⟨rfl,rfl⟩:=aF h
  exact ⟨rfl,.none⟩
 ·rename_i sz k off n kd i
  obtain ⟨_,h⟩:=aQ h
  obtain ⟨_,rfl,rfl⟩:=aK h
  exact ⟨(ha (.osl k off n) (by simp)).1,.none⟩
 ·rename_i g i j b
  obtain ⟨rfl,rfl⟩:=aF h
  exact ⟨(ha (.oref i j b) (by simp)).1,.none⟩
 ·exact (aC h).elim
theorem t7 {it:Nat} {v:D} {u:Upd} (h:aCN it hp v u) (hh:∀ i f cs,hp i=some (f,cs)→¬(lo≤i∧i < hi)∧names lo hi cs=false∧∀ e∈cs,Cell e):v.names lo hi=false∧UpdOk lo hi u:=by
 rcases h with ⟨rfl,rfl⟩ | ⟨i,j,c,s,q,x,m,va,nl,n,ks,vs,h1,h2,rfl,rfl⟩
 ·exact ⟨rfl,.none⟩
 ·obtain ⟨h3,h4,_⟩:=hh _ _ _ h1
  refine ⟨aX.2 fun d hd=>?_,.one h3 h4⟩
  simp only [List.mem_cons,List.not_mem_nil,or_false] at hd
  rcases hd with rfl | rfl | rfl
  ·rfl
  ·rfl
  ·exact vJ _ _
theorem xZ {o:AOp} {args:List D} {v:D} {u:Upd} (h:(aR o id hp tk args).holds v u) (ho:jO o=true) (ha:∀ d∈args,d.names lo hi=false∧xV lo hi d)
  (hh:∀ i f cs,hp i=some (f,cs)→¬(lo≤i∧i < hi)∧names lo hi cs=false∧∀ e∈cs,Cell e) (ht:∀ i e,tk i=some e→¬(lo≤i∧i < hi)) (hid:id+bF o≤lo∨hi≤id) :
  v.names lo hi=false∧(∀ x∈u.h,¬(lo≤x.1∧x.1 < hi)∧names lo hi x.2.2=false)∧∀ x∈u.t,¬(lo≤x.1∧x.1 < hi):=by
 have none':(∀ x∈Upd.none.h,¬(lo≤x.1∧x.1 < hi)∧names lo hi x.2.2=false)∧∀ x∈Upd.none.t,¬(lo≤x.1∧x.1 < hi):=⟨fun x hx=>by simp [Upd.none] at hx,fun x hx=>by simp [Upd.none] at hx⟩
 have hidlt:¬(lo≤id∧id < hi):=by
  have:0 < bF o:=by
   unfold bF
   split <;> omega
  omega
 unfold aR at h
 split at h
 ·obtain ⟨rfl,rfl⟩:=aF h; exact ⟨(ha _ (by simp)).1,none'⟩
 ·rename_i c x y
  obtain ⟨rfl,rfl⟩:=aF h
  refine ⟨?_,none'⟩
  cases c
  ·exact (ha y (by simp)).1
  ·exact (ha x (by simp)).1
 ·rename_i cells
  cases hs:aI cells with
  | false=>rw [hs] at h; exact (aC h).elim
  | true =>
   rw [hs] at h
   obtain ⟨rfl,rfl⟩:=aV h
   simp only [jO,List.all_eq_true] at ho
   have hr:=sM (lo:=lo) (hi:=hi) cells (id+1) (fun d hd=>by
    have:=ho d hd
    cases d with
    | slice t z n g=>exact .inl ⟨t,z,n,g,rfl⟩
    | _=>exact .inr (jU this)) (fun _ _ _ _ _ _ _=>trivial) (by simp only [bF] at hid; omega)
   refine ⟨aT (by omega),fun x hx=>?_,hr.2⟩
   simp only [List.mem_singleton] at hx
   subst hx
   exact ⟨by simp only; omega,hr.1⟩
 ·rename_i x
  cases hs:aI x.cells with
  | false=>rw [hs] at h; exact (aC h).elim
  | true =>
   rw [hs] at h
   obtain ⟨rfl,rfl⟩:=aV h
   refine ⟨aT (by omega),fun y hy=>?_,fun y hy=>by simp at hy⟩
   simp only [List.mem_singleton] at hy
   subst hy
   exact ⟨by simp only; omega,nA (ha x (by simp)).1 hs⟩
 ·rename_i g n i off
  split at h
  ·rename_i f cs hi'
   obtain ⟨h1,h2,h3⟩:=hh i _ _ hi'
   cases hfs:(f || aI cs) with
   | true =>
    rw [hfs] at h
    obtain ⟨h4,rfl⟩:=cH h (lZ h2 off) (fun e he=>h3 e (List.mem_of_mem_drop he))
    exact ⟨h4,none'⟩
   | false =>
    rw [hfs] at h
    obtain ⟨h4,rfl⟩:=w3 h h1
    exact ⟨h4,none'⟩
  ·exact (aC h).elim
 ·rename_i g n l
  obtain ⟨h4,rfl⟩:=cH (lo:=lo) (hi:=hi) h (dE l) (fun e he=>by
   obtain ⟨x,_,rfl⟩:=f0 he
   exact c5 x)
  exact ⟨h4,none'⟩
 ·rename_i n i off x
  split at h
  ·rename_i cs hi'
   obtain ⟨h1,h2,h3⟩:=hh i _ _ hi'
   cases hsol:aI cs with
   | false =>
    rw [hsol] at h
    obtain ⟨rfl,h4,h5⟩:=nH h h1 (ha x (by simp)).1
    exact ⟨rfl,h4,by rw [h5]; simp⟩
   | true =>
   rw [hsol] at h
   simp only [Bool.not_true,cond_false] at h
   cases hb:(aI x.cells&&Nat.beq x.cells.length n&&Nat.ble (off+n) cs.length) with
   | false=>rw [hb] at h; exact (aC h).elim
   | true =>
    rw [hb] at h
    obtain ⟨rfl,rfl⟩:=aV h
    simp only [Bool.and_eq_true] at hb
    refine ⟨rfl,fun y hy=>?_,fun y hy=>by simp at hy⟩
    simp only [List.mem_singleton] at hy
    subst hy
    refine ⟨h1,aX.2 fun d hd=>?_⟩
    rcases lE hd with hd | hd
    ·exact aX.1 h2 d hd
    ·exact aX.1 (nA (ha x (by simp)).1 hb.1.1) d hd
  ·exact (aC h).elim
 ·rename_i off i o
  obtain ⟨rfl,rfl⟩:=aF h
  exact ⟨(ha (.ptr i o) (by simp)).1,none'⟩
 ·obtain ⟨rfl,rfl⟩:=aF h
  exact ⟨rfl,none'⟩
 ·rename_i g off n l
  have h1:=ha (.agg l) (by simp)
  obtain ⟨h4,rfl⟩:=cH h (lZ h1.1 off) (fun e he=>h1.2 e (List.mem_of_mem_drop he))
  exact ⟨h4,none'⟩
 ·rename_i sz t z n g k i
  cases hb:Nat.beq z sz with
  | false=>rw [hb] at h; exact (aC h).elim
  | true =>
   rw [hb] at h
   obtain ⟨_,rfl,rfl⟩:=aK h
   exact ⟨rfl,none'⟩
 ·rename_i sz len j off k i
  obtain ⟨_,rfl,rfl⟩:=aK h
  exact ⟨(ha (.ptr j off) (by simp)).1,none'⟩
 ·obtain ⟨_,rfl,rfl⟩:=aK h
  exact ⟨rfl,none'⟩
 ·obtain ⟨_,rfl,rfl⟩:=aK h
  exact ⟨rfl,none'⟩
 ·rename_i g sz len l k i
  have h1:=ha (.agg l) (by simp)
  cases hl:cC g sz (l.drop (i.toNat * sz)) with
  | ok v' u' =>
   rw [hl] at h
   obtain ⟨_,rfl,rfl⟩:=aK h
   have hl':(cC g sz (l.drop (i.toNat * sz))).holds v u:=.inl hl
   obtain ⟨h4,rfl⟩:=cH hl' (lZ h1.1 _) (fun e he=>h1.2 e (List.mem_of_mem_drop he))
   exact ⟨h4,none'⟩
  | bad=>rw [hl] at h; exact (aC h).elim
  | ask p v' u'=>rw [hl] at h; exact (aC h).elim
  | chk p v' u'=>rw [hl] at h; exact (aC h).elim
  | alt p v' u' v2 u2=>rw [hl] at h; exact (aC h).elim
 ·rename_i zero parts
  cases hf:fill zero parts args with
  | none=>rw [hf] at h; exact (aC h).elim
  | some l =>
   rw [hf] at h
   obtain ⟨rfl,rfl⟩:=aF h
   simp only [jO,List.all_eq_true] at ho
   refine ⟨aFM (aX.2 fun d hd=>?_),none'⟩
   rcases aC0 hf d hd with h1 | ⟨x,h1,h2⟩
   ·exact jU (ho d h1)
   ·cases x with
    | agg l'=>exact aX.1 (ha _ h1).1 d h2
    | _ =>
     simp only [D.cells,List.mem_singleton] at h2
     subst h2
     exact aFW (ha _ h1).1
 ·rename_i sz len zero parts
  cases hf:fill (rep len zero) parts args with
  | none=>rw [hf] at h; exact (aC h).elim
  | some l =>
   rw [hf] at h
   simp only at h
   cases hb:(Nat.beq zero.length sz&&aI l) with
   | false=>rw [hb] at h; exact (aC h).elim
   | true =>
    rw [hb] at h
    obtain ⟨rfl,rfl⟩:=aF h
    exact ⟨rfl,none'⟩
 ·rename_i sz lo' hi' mx t z n g r
  cases hb:Nat.beq z sz with
  | false=>rw [hb] at h; exact (aC h).elim
  | true =>
   rw [hb] at h
   simp only [Bool.not_true,cond_false] at h
   split at h
   ·split at h
    ·split at h
     ·obtain ⟨_,rfl,rfl⟩:=aK h
      refine ⟨?_,none'⟩
      cases mx <;> rfl
     ·exact (aC h).elim
    ·exact (aC h).elim
   ·exact (aC h).elim
 ·split at h
  ·split at h
   ·obtain ⟨_,rfl,rfl⟩:=aK h
    exact ⟨rfl,none'⟩
   ·exact (aC h).elim
  ·exact (aC h).elim
 ·rename_i sz len np' i off
  split at h
  ·rename_i f cs hi'
   obtain ⟨h1,h2,h3⟩:=hh i _ _ hi'
   replace h:=(c6 h).2
   cases hb:(Nat.ble (off+len * sz) cs.length&&Nat.ble np' i) with
   | false=>rw [hb] at h; exact (aC h).elim
   | true =>
    rw [hb] at h
    obtain ⟨rfl,rfl⟩:=aV h
    refine ⟨rfl,fun y hy=>?_,fun y hy=>by simp at hy⟩
    simp only [List.mem_singleton] at hy
    subst hy
    exact ⟨h1,dE _⟩
  ·exact (aC h).elim
 ·rename_i sz len np' l
  cases hb:Nat.ble (len * sz) l.length with
  | false=>rw [hb] at h; exact (aC h).elim
  | true =>
   rw [hb] at h
   obtain ⟨rfl,rfl⟩:=aF h
   exact ⟨rfl,none'⟩
 ·obtain ⟨rfl,rfl⟩:=aF h
  exact ⟨rfl,none'⟩
 ·obtain ⟨rfl,rfl⟩:=aF h
  exact ⟨rfl,none'⟩
 ·rename_i sz bytes t z n g t' z' m g'
  cases hb:Nat.beq z' sz with
  | false=>rw [hb] at h; exact (aC h).elim
  | true =>
   rw [hb] at h
   exact qF h hidlt ht
 ·rename_i sz bytes t z n g b
  cases hb:Nat.beq sz 1 with
  | false=>rw [hb] at h; exact (aC h).elim
  | true =>
   rw [hb] at h
   exact qF h hidlt ht
 ·obtain ⟨h1,rfl⟩:=sG (lo:=lo) (hi:=hi) h
  exact ⟨h1,none'⟩
 ·obtain ⟨rfl,rfl⟩:=aF h
  exact ⟨rfl,none'⟩
 ·split at h
  ·obtain ⟨rfl,rfl⟩:=aF h
   exact ⟨rfl,none'⟩
  ·exact (aC h).elim
 ·unfold un at h
  split at h
  ·obtain ⟨rfl,rfl⟩:=aF h
   exact ⟨rfl,none'⟩
  ·obtain ⟨rfl,rfl⟩:=aF h
   exact ⟨rfl,none'⟩
  ·exact (aC h).elim
 ·obtain ⟨rfl,rfl⟩:=aF h
  exact ⟨rfl,none'⟩
 ·obtain ⟨rfl,rfl⟩:=aF h
  exact ⟨rfl,none'⟩
 ·obtain ⟨_,rfl,rfl⟩:=aS h
  exact ⟨rfl,none'⟩
 ·obtain ⟨rfl,rfl⟩:=aF h
  exact ⟨rfl,none'⟩
 ·obtain ⟨rfl,rfl⟩:=aF h
  exact ⟨rfl,none'⟩
 ·rename_i f np'
  cases hf:freeze np' hp args with
  | none=>rw [hf] at h; exact (aC h).elim
  | some p =>
   obtain ⟨ds,us⟩:=p
   rw [hf] at h
   obtain ⟨rfl,rfl⟩:=aV h
   exact ⟨rfl,lJ args ds us hf (fun i f cs h=>(hh i f cs h).1),fun y hy=>by simp at hy⟩
 ·rename_i i l
  have h1:=ha (.tup l) (by simp)
  cases hb:Nat.blt i l.length with
  | false=>rw [hb] at h; exact (aC h).elim
  | true =>
   rw [hb] at h
   obtain ⟨rfl,rfl⟩:=aF h
   refine ⟨?_,none'⟩
   rcases rB (l:=l) (j:=i) with h2 | h2
   ·have h3:=aX.1 h1.1 _ h2
    have h4:=h1.2 _ h2
    generalize nth l i .dead=e at h3 h4
    cases e with
    | agg c=>exact h4
    | tup c=>exact h4.elim
    | _=>exact h3
   ·rw [h2]; rfl
 ·rename_i zero bytes k l k' c
  cases hs:aI zero with
  | false=>rw [hs] at h; exact (aC h).elim
  | true =>
   rw [hs] at h
   cases hrow:Nat.ble 1000000 id with
   | true =>
    rw [hrow] at h
    obtain ⟨_,rfl,rfl⟩:=aS h
    refine ⟨aT (by omega),fun y hy=>?_,fun y hy=>by simp at hy⟩
    simp only [List.mem_singleton] at hy
    subst hy
    exact ⟨by simp only; omega,rfl⟩
   | false =>
    rw [hrow] at h
    obtain ⟨_,rfl,rfl⟩:=aS h
    refine ⟨aT (by omega),fun y hy=>by simp at hy,fun y hy=>?_⟩
    simp only [List.mem_singleton] at hy
    subst hy
    simp only
    omega
 ·obtain ⟨rfl,rfl⟩:=aF h
  exact ⟨(ha _ (by simp)).1,none'⟩
 ·obtain ⟨rfl,rfl⟩:=aF h
  exact ⟨rfl,none'⟩
 ·obtain ⟨rfl,rfl⟩:=aF h
  exact ⟨rfl,none'⟩
 ·obtain ⟨rfl,rfl⟩:=aV h
  refine ⟨aT (by omega),fun y hy=>by simp at hy,fun y hy=>?_⟩
  simp only [List.mem_singleton] at hy
  subst hy
  simp only
  omega
 ·obtain ⟨rfl,rfl⟩:=aV h
  refine ⟨aT (by omega),fun y hy=>?_,fun y hy=>by simp at hy⟩
  simp only [List.mem_singleton] at hy
  subst hy
  exact ⟨by simp only; omega,rfl⟩
 ·rename_i i
  unfold q6 at h
  split at h
  ·rename_i s p hi'
   obtain ⟨h1,_,_⟩:=hh i _ _ hi'
   rcases bV h with ⟨_,rfl,rfl⟩ | ⟨_,rfl,rfl⟩
   ·refine ⟨rfl,fun y hy=>?_,fun y hy=>by simp at hy⟩
    simp only [List.mem_singleton] at hy
    subst hy
    exact ⟨h1,rfl⟩
   ·exact ⟨rfl,none'⟩
  ·exact (aC h).elim
 ·rename_i va lin
  obtain ⟨rfl,rfl⟩:=aV h
  refine ⟨aT (by omega),fun y hy=>?_,fun y hy=>by simp at hy⟩
  simp only [List.mem_singleton] at hy
  subst hy
  exact ⟨by simp only; omega,by cases va <;> cases lin <;> rfl⟩
 ·unfold v6 at h
  split at h
  ·obtain ⟨rfl,rfl⟩:=aF h
   exact ⟨rfl,none'⟩
  ·exact (aC h).elim
 ·rename_i i k x
  unfold wU at h
  split at h
  ·rename_i va n ks vs hi'
   obtain ⟨h1,_,_⟩:=hh i _ _ hi'
   obtain ⟨_,h⟩:=aQ h
   obtain ⟨rfl,rfl⟩:=aV h
   refine ⟨rfl,fun y hy=>?_,fun y hy=>by simp at hy⟩
   simp only [List.mem_singleton] at hy
   subst hy
   exact ⟨h1,rfl⟩
  ·rename_i k' n ks vs hi'
   obtain ⟨h1,_,_⟩:=hh i _ _ hi'
   obtain ⟨_,h⟩:=aQ h
   split at h
   ·rename_i u0 p hput
    obtain ⟨_,rfl,rfl⟩:=aS h
    refine ⟨rfl,fun y hy=>?_,fun y hy=>?_⟩
    ·simp only [List.mem_singleton] at hy
     subst hy
     exact ⟨h1,rfl⟩
    ·obtain ⟨e,he⟩:=pY hput y hy
     exact ht _ e he
   ·exact (aC h).elim
  ·exact (aC h).elim
 ·rename_i comma va zero i k
  unfold wL at h
  split at h
  ·rename_i va' n ks vs hi'
   obtain ⟨hva,h⟩:=aQ h
   have hva:va'=va:=by cases va' <;> cases va <;> first | rfl | cases hva
   subst hva
   have hz:∀ ok l,(gU comma va' ok l).names lo hi=false:=fun ok l=>by
    have e:(mkv va' (aM l)).names lo hi=false∧(mkv va' (aM l)).names1 lo hi=false:=by
     cases va' with
     | true=>exact ⟨dE l,rfl⟩
     | false =>
      simp only [mkv,cond_false]
      rw [aU]
      exact ⟨(c5 _).names (cX _),cX _⟩
    cases comma with
    | false=>exact e.1
    | true =>
     simp only [gU,cond_true,D.names]
     refine aX.2 fun d hd=>?_
     simp only [List.mem_cons,List.not_mem_nil,or_false] at hd
     rcases hd with rfl | rfl
     ·exact e.2
     ·rfl
   rcases bV h with ⟨_,rfl,rfl⟩ | ⟨_,rfl,rfl⟩
   ·exact ⟨hz _ _,none'⟩
   ·exact ⟨hz _ _,none'⟩
  ·rename_i n ks vs hi'
   obtain ⟨h1,_,_⟩:=hh i _ _ hi'
   obtain ⟨hb,h⟩:=aQ h
   simp only [Bool.and_eq_true,Bool.not_eq_true'] at hb
   obtain ⟨⟨⟨⟨hva,_⟩,_⟩,hlen⟩,_⟩:=hb
   have hlen:=Nat.eq_of_beq_eq_true hlen
   have hids:bF (.mapGet comma va zero)=1+zero.length:=by rw [hva]; rfl
   rw [hids] at hid
   have hm:∀ y∈[(i,false,[D.str k,.mp true n ks vs])],¬(lo≤y.1∧y.1 < hi)∧names lo hi y.2.2=false:=fun y hy=>by
    simp only [List.mem_singleton] at hy
    subst hy
    exact ⟨h1,rfl⟩
   rcases bV h with ⟨_,rfl,rfl⟩ | ⟨_,rfl,rfl⟩
   ·refine ⟨aX.2 fun d hd=>?_,hm,fun y hy=>?_⟩
    ·rcases rQ hd with ⟨q,z,m,g,h2,rfl⟩ | ⟨x,rfl⟩
     ·exact aT (by omega)
     ·exact cX x
    ·have:=rN hy
     omega
   ·refine ⟨aX.2 fun d hd=>?_,hm,fun y hy=>by simp at hy⟩
    simp only [jO,Bool.and_eq_true,List.all_eq_true] at ho
    exact jU (ho.1 d hd)
  ·exact (aC h).elim
 ·obtain ⟨rfl,rfl⟩:=aF h
  exact ⟨rfl,none'⟩
 ·obtain ⟨rfl,rfl⟩:=aF h
  exact ⟨rfl,none'⟩
 ·obtain ⟨rfl,rfl⟩:=aF h
  exact ⟨rfl,none'⟩
 ·rcases bV h with ⟨_,rfl,rfl⟩ | ⟨_,rfl,rfl⟩
  ·exact ⟨rfl,none'⟩
  ·exact ⟨rfl,none'⟩
 ·obtain ⟨rfl,rfl⟩:=aF h
  exact ⟨rfl,none'⟩
 ·rename_i sz j z n kd i
  obtain ⟨_,h⟩:=c6 h
  obtain ⟨_,rfl,rfl⟩:=aK h
  exact ⟨(ha (.msl j z n) (by simp)).1,none'⟩
 ·rename_i off j z n i o
  obtain ⟨rfl,rfl⟩:=aF h
  exact ⟨(ha (.rptr j z n i o) (by simp)).1,none'⟩
 ·rename_i j z n i o
  obtain ⟨rfl,rfl⟩:=aF h
  exact ⟨(ha (.rptr j z n i o) (by simp)).1,none'⟩
 ·unfold qY at h
  split at h
  ·obtain ⟨_,h⟩:=aQ h
   obtain ⟨_,h⟩:=l5 h
   obtain ⟨e1,rfl⟩:=cH (lo:=lo) (hi:=hi) h (lZ (dE _) _) (fun e he=>by
    obtain ⟨x,_,rfl⟩:=f0 (List.mem_of_mem_drop he)
    exact c5 x)
   exact ⟨e1,none'⟩
  ·exact (aC h).elim
 ·rename_i m j z n i o x
  unfold nO at h
  split at h
  ·rename_i w z' n' g hi'
   obtain ⟨_,h⟩:=aQ h
   obtain ⟨_,rfl,rfl⟩:=aS h
   refine ⟨rfl,fun y hy=>?_,fun y hy=>by simp at hy⟩
   simp only [List.mem_singleton] at hy
   subst hy
   exact ⟨(hh j _ _ hi').1,rfl⟩
  ·exact (aC h).elim
 ·rename_i sz bytes j z n t z' m k
  obtain ⟨_,h⟩:=c6 h
  unfold sF at h
  split at h
  ·rename_i z1 n1 g hi'
   obtain ⟨_,h⟩:=aQ h
   obtain ⟨_,rfl,rfl⟩:=aS h
   refine ⟨(ha (.msl j z n) (by simp)).1,fun y hy=>?_,fun y hy=>by simp at hy⟩
   simp only [List.mem_singleton] at hy
   subst hy
   exact ⟨(hh j _ _ hi').1,rfl⟩
  ·exact (aC h).elim
 ·obtain ⟨_,h⟩:=aQ h
  unfold yF at h
  split at h
  ·obtain ⟨_,h⟩:=aQ h
   obtain ⟨_,rfl,rfl⟩:=aS h
   have hn:(Nat.ble lo id&&Nat.blt id hi)=false:=by
    rw [Bool.eq_false_iff]
    intro hc
    rw [Bool.and_eq_true] at hc
    exact hidlt ⟨Nat.le_of_ble_eq_true hc.1,by simpa [Nat.blt_eq] using hc.2⟩
   exact ⟨hn,fun x hx=>by simp at hx,fun x hx=>by
    obtain rfl:x=_:=by simpa using hx
    exact hidlt⟩
  ·exact (aC h).elim
 ·obtain ⟨h1,h2,h3⟩:=aDU h ha hh hidlt
  exact ⟨h1,h2,by rw [h3]; simp⟩
end
section
variable {P:Program} {F:Nat→FuncId} {B np:Nat} {w0 w w':World} {ext:List Nat} {σ0:Og} {G G':Gh} {s:St} {a:Act} {ft:FT} {hp:Nat→Option (Bool×List D)} {tk:Nat→Option (Nat×Nat)} {lo hi:Nat}
theorem kV:∀ {l:List (Nat×Bool×List D)} {hp:Nat→Option (Bool×List D)} {j:Nat} {x:Bool×List D},bX hp l j=some x→hp j=some x∨(j,x)∈l
 | [],_,_,_,h=>.inl h
 | (i,e)::l,hp,j,x,h=>by
  simp only [bX] at h
  rcases kV h with h1 | h1
  ·rcases aN h1 with ⟨rfl,rfl⟩ | ⟨_,h2⟩
   ·exact .inr (by simp)
   ·exact .inl h2
  ·exact .inr (List.mem_cons_of_mem _ h1)
theorem vO:∀ {l:List (Nat×Nat×Nat)} {tk:Nat→Option (Nat×Nat)} {j:Nat} {x:Nat×Nat},cF tk l j=some x→tk j=some x∨(j,x)∈l
 | [],_,_,_,h=>.inl h
 | (i,e)::l,tk,j,x,h=>by
  simp only [cF] at h
  rcases vO h with h1 | h1
  ·rcases aN h1 with ⟨rfl,rfl⟩ | ⟨_,h2⟩
   ·exact .inr (by simp)
   ·exact .inl h2
  ·exact .inr (List.mem_cons_of_mem _ h1)
theorem aDN (dst:Option Nat) (v:D) (fr:List D):(fI dst v fr).length=fr.length:=by
 cases dst <;> simp [fI,cD]
theorem aDJ (dst:Option Nat) (v:D) (fr:List D) (j:Nat):nth (fI dst v fr) j .dead=v∨nth (fI dst v fr) j .dead=nth fr j .dead:=by
 cases dst with
 | none=>exact .inr rfl
 | some d =>
  simp only [fI,fN]
  split
  ·exact .inl rfl
  ·exact .inr rfl
theorem Clean.after (h:Clean lo hi s) {v:D} {u:Upd} (hv:v.names lo hi=false) (hh:∀ x∈u.h,¬(lo≤x.1∧x.1 < hi)∧names lo hi x.2.2=false) (ht:∀ x∈u.t,¬(lo≤x.1∧x.1 < hi)) (dst:Option Nat) :
  Clean lo hi ⟨fI dst v s.fr,bX s.hp u.h,cF s.tk u.t⟩:=by
 refine ⟨fun i hi'=>?_,fun i f cs hx=>?_,fun i e hx=>?_⟩
 ·simp only [aDN] at hi'
  simp only
  rcases aDJ dst v s.fr i with e | e
  ·rw [e]; exact hv
  ·rw [e]; exact h.fr i hi'
 ·rcases kV hx with h1 | h1
  ·exact h.hp i f cs h1
  ·exact hh _ h1
 ·rcases vO hx with h1 | h1
  ·exact h.tk i e h1
  ·exact ht _ h1
theorem Rp.cell {σ:Sg} {v:Value} {d:D} (h:Rp σ v d):Cell d:=by cases h <;> trivial
theorem Rc.cell {v:Value} {d:D} (h:Rc F G tk v d):Cell d:=by
 cases h with
 | pure h _=>exact h.cell
 | _=>trivial
theorem Rd.flat {v:Value} {d:D} (h:Rd F G tk v d):xV lo hi d:=by
 cases h with
 | any h =>
  cases h with
  | cell h =>
   have:=h.cell
   cases d <;> first | trivial | exact this.elim
  | agg cs l h1 h2 =>
   intro e he
   obtain ⟨j,hj,rfl⟩:=List.mem_iff_getElem.1 he
   have:=(h2 j hj).cell
   rw [dK l _ hj] at this
   exact this
 | tup vs l h1 h2 =>
  intro e he
  obtain ⟨j,hj,rfl⟩:=List.mem_iff_getElem.1 he
  have:=h2 j hj
  rw [dK l _ hj] at this
  generalize l[j]=e at this
  generalize vs.getD j undef=v at this
  cases this with
  | cell h =>
   have:=h.cell
   cases e <;> first | trivial | exact this.elim
  | agg cs c h3 h4 =>
   refine aX.2 fun x hx=>?_
   obtain ⟨q,hq,rfl⟩:=List.mem_iff_getElem.1 hx
   have:=(h4 q hq).2
   rw [dK c _ hq] at this
   rw [this]
   exact cX _
 | mref id=>trivial
 | msl=>trivial
 | rptr=>trivial
 | oref _ _ _ _=>trivial
 | oagg _ _ _ _ _ _=>trivial
 | osl _ _ _ _ _ _ _=>trivial
 | kseq _ _ _ _ _ _ _ _=>trivial
theorem pJ {d:D} (h:zW d=true):d.names lo hi=false∧xV lo hi d:=by
 cases d with
 | agg l =>
  simp only [zW,List.all_eq_true] at h
  refine ⟨aX.2 fun e he=>jU (h e he),fun e he=>?_⟩
  have:=h e he
  cases e <;> first | trivial | cases this
 | tup l=>cases h
 | slice t z n g=>cases t <;> first | exact ⟨rfl,trivial⟩ | cases h
 | ptr j o=>cases h
 | mref j=>cases h
 | msl j z n=>cases h
 | rptr j z n i o=>cases h
 | oref j _ _=>cases h
 | oagg j _ _ _=>cases h
 | osl j _ _=>cases h
 | kseq _ j _ _=>cases h
 | mit j _ _ _ _ _=>cases h
 | _=>exact ⟨rfl,trivial⟩
theorem zV {fr:List D}:∀ {xs:List AX} {d:D},d∈evs fr xs→∃ x∈xs,d=x.ev fr
 | [],_,h=>by simp [evs] at h
 | x::xs,d,h=>by
  simp only [evs,List.mem_cons] at h
  rcases h with h | h
  ·exact ⟨x,by simp,h⟩
  ·obtain ⟨y,h1,h2⟩:=zV h
   exact ⟨y,List.mem_cons_of_mem _ h1,h2⟩
theorem aKO (r:Rel F B np w0 ext σ0 G s a w) (hcl:Clean lo hi s) {xs:List AX} (h:xs.all mH=true):∀ d∈evs s.fr xs,d.names lo hi=false∧xV lo hi d:=by
 intro d hd
 obtain ⟨x,hx,rfl⟩:=zV hd
 have hx:=List.all_eq_true.1 h x hx
 cases x with
 | t i =>
  simp only [AX.ev]
  by_cases hi':i < s.fr.length
  ·exact ⟨hcl.fr i hi',(r.slots i hi').flat⟩
  ·rw [iE s.fr D.dead (Nat.le_of_not_lt hi')]
   exact ⟨rfl,trivial⟩
 | c d=>exact pJ hx
theorem aIW (r:Rel F B np w0 ext σ0 G s a w) (hcl:Clean lo hi s):∀ i f cs,s.hp i=some (f,cs)→¬(lo≤i∧i < hi)∧names lo hi cs=false∧∀ e∈cs,Cell e:=by
 intro i f cs h
 refine ⟨(hcl.hp i f cs h).1,(hcl.hp i f cs h).2,fun e he=>?_⟩
 cases f with
 | false =>
  by_cases hna:fH cs=false
  rotate_left
  ·rcases aBJ (by simpa using hna) with ⟨w,z,n,g,rfl⟩ | ⟨m,c,va,nl,n,ks,vs,rfl⟩ | ⟨i,j,b,c,k,q,rfl⟩ <;>
    (simp only [List.mem_cons,List.not_mem_nil,or_false] at he; rcases he with rfl | rfl <;> trivial)
  obtain ⟨_,_,hh,_⟩:=r.mem.vars i cs h hna
  rcases hh.cell with hs | ⟨t,p,rfl⟩ | ⟨x,va,n,ks,vs,rfl⟩
  ·exact gQ hs e he
  rotate_left
  ·simp only [List.mem_cons,List.not_mem_nil,or_false] at he
   rcases he with rfl | rfl
   ·by_cases hx:e=.dead
    ·rw [hx]
     trivial
    ·rcases (r.mem.lins i e va n ks vs h hx).1.2 with rfl | ⟨k,rfl⟩ <;> trivial
   ·trivial
  ·simp only [List.mem_cons,List.not_mem_nil,or_false] at he
   rcases he with rfl | rfl | rfl <;> trivial
 | true =>
  obtain ⟨j,hj,rfl⟩:=List.mem_iff_getElem.1 he
  obtain ⟨v,_,_,h3⟩:=r.mem.froz i cs h j hj
  rw [dK cs _ hj] at h3
  rw [h3]
  exact c5 _
theorem cK {o:Out} {k:D→Upd→Prop} (h:o.then k):∃ v u,o.holds v u∧k v u:=by
 cases o with
 | bad=>exact h.elim
 | ok v u=>exact ⟨v,u,.inl rfl,h⟩
 | ask p v u=>exact ⟨v,u,.inr (.inl ⟨p,h.1,rfl⟩),h.2⟩
 | chk b v u =>
  cases b with
  | true=>exact ⟨v,u,.inr (.inr (.inl rfl)),h⟩
  | false=>exact h.elim
 | alt b v u v' u' =>
  cases b with
  | true=>exact ⟨v,u,.inr (.inr (.inr (.inl ⟨v',u',rfl⟩))),h⟩
  | false=>exact ⟨v',u',.inr (.inr (.inr (.inr ⟨v,u,rfl⟩))),h⟩
theorem gM {o:Out} {k:D→Upd→Prop} {v:D} {u:Upd} (h:o.holds v u) (hk:k v u):o.then k:=by
 rcases h with rfl | ⟨p,hp,rfl⟩ | rfl | ⟨_,_,rfl⟩ | ⟨_,_,rfl⟩
 ·exact hk
 ·exact ⟨hp,hk⟩
 ·exact hk
 ·exact hk
 ·exact hk
def St.next (s:St) (dst:Option Nat) (v:D) (u:Upd):St:=⟨fI dst v s.fr,bX s.hp u.h,cF s.tk u.t⟩
theorem uH (r:Rel F B np w0 ext σ0 G s a w) (hcl:Clean lo hi s) {ao:AOp} {xs:List AX} (hok:jO ao=true) (hax:xs.all mH=true) {id:Nat} (hid:id+bF ao≤lo∨hi≤id) {v:D} {u:Upd}
  (hh:(aR ao id s.hp s.tk (evs s.fr xs)).holds v u) (dst:Option Nat):Clean lo hi (s.next dst v u):=by
 obtain ⟨h1,h2,h3⟩:=xZ hh hok (aKO r hcl hax) (aIW r hcl) hcl.tk hid
 exact hcl.after h1 h2 h3 dst
theorem aIY (r:Rel F B np w0 ext σ0 G s a w) {it id:Nat} (hnp:np≤id) (hcl:Clean id (id+1) s) {x:Value} (hx:Rd F G s.tk x (.ptr it 0)) (ty:TypeId) {k:D→Upd→Prop} (h:nN it s.hp (s.hp it) k) (dst:Option Nat) :
  ∃ v u w' r' v' G',k v u∧aCN it s.hp v u∧(((Instr.next x false ty).run P w).andThen fun v w=>Result.ok (Next.value v) w)=.ok r' w'∧(r'=.value v'∨r'=.skip∧v'=undef)∧Rel F B np w0 ext σ0 G' (s.next dst v u) (a.put dst v') w':=by
 obtain ⟨v,u,h0,h00,w',r',v',G',h1,h2,h3,h4,h5⟩:=y0 r.mem hx id 1 ty h
 exact ⟨v,u,w',r',v',G',h0,h00,h1,h2,r.put hnp hcl h5 h3 h4 dst⟩
theorem aAU (r:Rel F B np w0 ext σ0 G s a w) (hcl:Clean lo hi s) {it:Nat} {v:D} {u:Upd} (hh:aCN it s.hp v u) (dst:Option Nat):Clean lo hi (s.next dst v u):=by
 obtain ⟨h1,h2,h3⟩:=t7 hh (aIW r hcl)
 exact hcl.after h1 h2 (by rw [h3]; simp) dst
theorem aK3 (hft:∀ f j,ag ft f=some j→F j=f) (r:Rel F B np w0 ext σ0 G s a w) {o:Oper} {ao:AOp} {xs:List AX} (ht:aDE P ft np o=some (ao,xs)) (hnc:mS ao=false) {id:Nat} (hnp:np≤id) (hcl:Clean id (id+bF ao) s) {v:D} {u:Upd}
  (hh:(aR ao id s.hp s.tk (evs s.fr xs)).holds v u) (dst:Option Nat) :
  ∃ w' r' v' G',(execOp a.eval o).run P w=.ok r' w'∧(r'=.value v'∨r'=.skip∧v'=undef)∧Rel F B np w0 ext σ0 G' (s.next dst v u) (a.put dst v') w':=by
 obtain ⟨w',r',v',G',h1,h2,h3,h4,h5⟩:=aJG hft r o ao xs ht hnc id hnp hcl v u hh
 exact ⟨w',r',v',G',h1,h2,r.put hnp hcl h5 h3 h4 dst⟩
end
def G0 (σ:Og) (ext:List Nat):Gh:=⟨σ.σ,fun k=>ext.getD k 0,fun _=>undef,σ.η,fun _=>none,σ.φ⟩
def aKC (σ:Og) (w:World) (ext:List Nat) (k z n:Nat) (g:Nat→List D):Prop :=
 ∃ a c,σ.η k n=some (.slice a n c)∧n≤c∧(∀ m,m≠n→σ.η k m=none)∧(0 < c→a=some ⟨ext.getD k 0,0,none⟩∧(∀ q,σ (ext.getD k 0) q=none)∧∃ o,w.heap[ext.getD k 0]? = some o∧RowO σ.σ o z n c g)
abbrev aKG (φ:Nat→Option Fo) (σ:Sg) (b m va:Nat) (nl:Nat→Bool) (n:Nat→Nat) (ks:Nat→Nat→ByteArray) (vs:Nat→Nat→List D):Prop :=
 ObjAt ⟨σ,fun _=>0,fun _=>undef,fun _ _=>none,fun _=>none,φ⟩ b m va nl n ks vs
structure CPre (F:Nat→FuncId) (σ:Og) (w:World) (ext:List Nat) (vals:Array Value) (ds:List D) (bs:List (List D)):Prop where
 stab:∀ b o v,σ b o=some v→v.oneCell'=true∧∃ c e fz,w.heap[b]? = some (.cells c e fz)∧c[o]? = some v
 size:vals.size=ds.length
 args:∀ j,j < ds.length→Rd F (G0 σ ext) (fun _=>none) (vals.getD j undef) (nth ds j .dead)
 clean:∀ j,j < ds.length→∀ h,(nth ds j .dead).names bs.length h=false
 len:ext.length=bs.length
 nodup:∀ i j,i < bs.length→j < bs.length→ext.getD i 0=ext.getD j 0→i=j
 frn:∀ b x,σ.φ b=some x→(∀ o,σ b o=none)∧w.heap[b]? = some x.ob∧∃ k,k < bs.length∧bS (bs.getD k [])=true∧x.id=ext.getD k 0
 uniq:∀ b b' x x',σ.φ b=some x→σ.φ b'=some x'→x.id=x'.id→x.q=x'.q→b=b'
 nofrn:∀ k,k < bs.length→bS (bs.getD k [])=false→σ.φ (ext.getD k 0)=none
 blocks:∀ k,k < bs.length→(∃ z n g,bs.getD k []=[.dead,.arr false z n g]∧aKC σ w ext k z n g)∨(∃ m va nl n ks vs,bs.getD k []=[.dead,.obj m 0 va nl n ks vs]∧aKG σ.φ σ.σ (ext.getD k 0) m va nl n ks vs)∨aI (bs.getD k [])=true∧(∃ c e,w.heap[ext.getD k 0]? = some (.cells c e (0,0))∧c.size=(bs.getD k []).length ∧
  (∀ j,j < (bs.getD k []).length→Rp σ (c.getD j undef) (nth (bs.getD k []) j .dead)∧nth (bs.getD k []) j .dead=(nth (bs.getD k []) j .dead).pure1)∧∀ o,σ (ext.getD k 0) o=none)
def tC (σ:Sg) (w:World) (B:Nat) (v:Value):D→Prop
 | .agg c=>∃ cs,v=.agg cs∧cs.size=c.length∧∀ j,j < c.length→Rp σ (cs.getD j undef) (nth c j .dead).pure1
 | .slice (.own _) z n g=>Rp σ v (.slice .ro z n g)∧∃ a c,v=.slice a n c∧n≤c∧(n < c→∃ b cur e,a=some ⟨b,0,none⟩∧w.heap[b]? = some (.cells cur e (0,0))∧cur.size=c * z∧(∀ o,n * z≤o→σ b o=none)∧B≤b)
 | .newp l=>∃ b c e,v=.pointer (some ⟨b,0,none⟩)∧B≤b∧w.heap[b]? = some (.cells c e (0,0))∧c.size=l.length∧(∀ j,j < l.length→Rp σ (c.getD j undef) (nth l j .dead).pure1)∧∀ o,σ b o=none
 | .arr _ z n g=>∃ a c,v=.slice a n c∧n≤c∧(0 < c→∃ b,a=some ⟨b,0,none⟩∧B≤b∧(∀ o,σ b o=none)∧∃ o,w.heap[b]? = some o∧RowO σ o z n c g)
 | d=>Rp σ v d.pure1
def dB (v:Value) (d:D) (b:Nat):Prop:=∃ i z n g c,d=.slice (.own i) z n g∧v=.slice (some ⟨b,0,none⟩) n c∧n < c
def eU (vs:Array Value):Value:=if h:vs.size=1 then vs[0] else .tuple vs
def uF (v:Value) (d:D) (b:Nat):Prop :=
 dB v d b∨(∃ l,d=.newp l∧v=.pointer (some ⟨b,0,none⟩))∨∃ w z n g c,d=.arr w z n g∧v=.slice (some ⟨b,0,none⟩) n c∧0 < c
structure q7 (σ:Og) (B:Nat) (ext:List Nat) (w':World) (σ':Sg) (rs:List D) (bs':List (List D)) (vs:Array Value) (φ':Nat→Option Fo):Prop where
 mono:∀ b x,σ.φ b=some x→∃ o,φ' b=some ⟨x.id,x.q,o⟩
 fresh:∀ b x,φ' b=some x→(∃ o,σ.φ b=some ⟨x.id,x.q,o⟩)∨B≤b
 heap:∀ b x,φ' b=some x→w'.heap[b]? = some x.ob∧∀ o,σ' b o=none
 hdr:∀ b x,φ' b=some x→∃ o,σ.φ x.id=some ⟨x.id,0,o⟩
 uniq:∀ b b' x x',φ' b=some x→φ' b'=some x'→x.id=x'.id→x.q=x'.q→b=b'
 objs:∀ k m c va nl n ks vs,k < bs'.length→k < ext.length→bs'.getD k []=[.dead,.obj m c va nl n ks vs]→(∃ o,σ.φ (ext.getD k 0)=some ⟨ext.getD k 0,0,o⟩)→aKG φ' σ' (ext.getD k 0) m va nl n ks vs
 res:∀ j b,j < rs.length→uF (vs.getD j undef) (nth rs j .dead) b→φ' b=none
 same:∀ k m va nl n ks vs,k < bs'.length→k < ext.length→bs'.getD k []=[.dead,.obj m 0 va nl n ks vs]→∀ b x,σ.φ b=some x→x.id=ext.getD k 0→φ' b=some x
structure CPost (σ:Og) (w:World) (ext:List Nat) (w':World) (σ':Sg) (rs:List D) (bs':List (List D)) (vs:Array Value):Prop where
 stab:∀ b o v,σ' b o=some v→v.oneCell'=true∧∃ c e fz,w'.heap[b]? = some (.cells c e fz)∧c[o]? = some v
 le:SgLe σ.σ σ'
 old:∀ b o,b < w.heap.size→σ' b o=σ b o
 os:w'.os=w.os
 tape:w'.tape=w.tape
 output:w'.output=w.output
 base:w.heap.size≤w'.heap.size
 keep:∀ b,b < w.heap.size→b ∉ ext→σ.φ b=none→w'.heap[b]? = w.heap[b]?
 rows:∀ k f z n g,k < bs'.length→k < ext.length→bs'.getD k []=[.dead,.arr f z n g]→∃ a c,σ.η k n=some (.slice a n c)∧∀ b,a=some ⟨b,0,none⟩→0 < c→∃ o,w'.heap[b]? = some o∧RowO σ' o z n c g
 blocks:∀ k,k < bs'.length→k < ext.length→aI (aM (bs'.getD k []))=true→∃ c e,w'.heap[ext.getD k 0]? = some (.cells c e (0,0))∧c.size=(bs'.getD k []).length ∧
  ∀ j,j < (bs'.getD k []).length→Rp σ' (c.getD j undef) (nth (bs'.getD k []) j .dead).pure1
 size:vs.size=rs.length
 res:∀ j,j < rs.length→tC σ' w' w.heap.size (vs.getD j undef) (nth rs j .dead)
 own:∀ i j b,i < rs.length→j < rs.length→dB (vs.getD i undef) (nth rs i .dead) b→dB (vs.getD j undef) (nth rs j .dead) b→i=j
 objs:∃ φ',q7 σ w.heap.size ext w' σ' rs bs' vs φ'
structure dM (P:Program) (F:Nat→FuncId) (f:FuncId) (C:bA):Prop where
 enter:∀ (args:Array Value) (w:World),(callFunc f args).run P w=.ok (.enter f args) w
 mono:∀ ds bs K K',(∀ rs bs',K rs bs'→K' rs bs')→C ds bs K→C ds bs K'
 feas:∀ ds bs K,C ds bs K→∃ rs bs',K rs bs'
 calls:∀ σ w ext vals ds bs K,CPre F σ w ext vals ds bs→C ds bs K→Calls P f vals w fun e w'=>∃ vs rs bs' σ',e=.returned (eU vs)∧K rs bs'∧CPost σ w ext w' σ' rs bs' vs
structure aLR (P:Program) (F:Nat→FuncId) (f:FuncId) (C:bA):Prop where
 mono:∀ ds bs K K',(∀ rs bs',K rs bs'→K' rs bs')→C ds bs K→C ds bs K'
 feas:∀ ds bs K,C ds bs K→∃ rs bs',K rs bs'
 calls:∀ σ w ext vals ds bs K,CPre F σ w ext vals ds bs→C ds bs K→∃ w' vs rs bs' σ',(callFunc f vals).run P w=.ok (.value (eU vs)) w'∧K rs bs'∧CPost σ w ext w' σ' rs bs' vs
def COk (P:Program) (F:Nat→FuncId) (f:FuncId) (C:bA):Prop:=dM P F f C∨aLR P F f C
theorem COk.mono {P:Program} {F:Nat→FuncId} {f:FuncId} {C:bA} (h:COk P F f C):∀ ds bs K K',(∀ rs bs',K rs bs'→K' rs bs')→C ds bs K→C ds bs K':=h.elim (·.mono) (·.mono)
theorem COk.feas {P:Program} {F:Nat→FuncId} {f:FuncId} {C:bA} (h:COk P F f C):∀ ds bs K,C ds bs K→∃ rs bs',K rs bs':=h.elim (·.feas) (·.feas)
def EnvOk (P:Program) (F:Nat→FuncId) (E:Env):Prop:=(∀ j q,F (j+1000 * q)=F j)∧∀ j C,ag E j=some C→COk P F (F j) C
theorem EnvOk.get {P:Program} {F:Nat→FuncId} {E:Env} (h:EnvOk P F E) {id f:Nat} {C:bA} (hc:agc E id f=some C):COk P F (F f) C:=by
 unfold agc at hc
 split at hc
 ·rename_i C' h1
  cases hc
  have:=h.2 _ _ h1
  rw [h.1] at this
  exact this
 ·exact h.2 _ _ hc
theorem aK0 {E:Env} {id f:Nat} {C:bA} (hc:agc E id f=some C):∃ j,ag E j=some C:=by
 unfold agc at hc
 split at hc
 ·rename_i C' h1
  cases hc
  exact ⟨_,h1⟩
 ·exact ⟨_,hc⟩
section
variable {P:Program} {F:Nat→FuncId} {B np:Nat} {w0 w w':World} {ext:List Nat} {σ0:Og} {G G':Gh} {s:St} {a:Act} {hp:Nat→Option (Bool×List D)} {tk:Nat→Option (Nat×Nat)}
theorem eY:∀ {l:List (Nat×Nat×Nat)} {tk:Nat→Option (Nat×Nat)} {j:Nat},(∀ x∈l,x.1≠j)→cF tk l j=tk j
 | [],_,_,_=>rfl
 | (i,e)::l,tk,j,h=>by
  simp only [cF]
  rw [eY (fun x hx=>h x (List.mem_cons_of_mem _ hx))]
  have:Nat.beq j i=false:=by
   cases hh:Nat.beq j i with
   | false=>rfl
   | true=>exact absurd (Nat.eq_of_beq_eq_true hh).symm (h (i,e) (by simp))
  rw [this]
  rfl
theorem gP:∀ (l:List D) (i:Nat) (x:Nat×Nat×Nat),x∈aW l i→i≤x.1
 | [],_,_,h=>by simp [aW] at h
 | d::l,i,x,h=>by
  have other:x∈aW l (i+1)→i≤x.1:=fun h=>by have:=gP l (i+1) x h; omega
  cases d with
  | slice t z n g =>
   cases t with
   | own j =>
    simp only [aW,List.mem_cons] at h
    rcases h with rfl | h
    ·exact Nat.le_refl _
    ·exact other h
   | _=>exact other h
  | _=>exact other h
def jQ (l:List D) (i j:Nat):Option (Nat×Nat):=match nth l (j - i) .dead with
 | .slice (.own _) z n _=>if i≤j∧j < i+l.length then some (z,n) else none
 | _=>none
theorem fV:∀ (l:List D) (i:Nat) (tk:Nat→Option (Nat×Nat)) (j:Nat),cF tk (aW l i) j=match jQ l i j with
  | some e=>some e
  | none=>tk j
 | [],i,tk,j=>by simp [aW,cF,jQ,nth]
 | d::l,i,tk,j=>by
  have hlt:j < i→cF tk (aW (d::l) i) j=tk j:=fun h=>eY fun x hx=>by have:=gP _ _ _ hx; omega
  rcases Nat.lt_trichotomy j i with h | h | h
  ·rw [hlt h]
   have:jQ (d::l) i j=none:=by
    unfold jQ
    split
    ·rw [if_neg (by omega)]
    ·rfl
   rw [this]
  ·subst h
   have h0:∀ tk',cF tk' (aW l (j+1)) j=tk' j:=fun tk'=>eY fun x hx=>by have:=gP _ _ _ hx; omega
   cases d with
   | slice t z n g =>
    cases t with
    | own q =>
     simp only [aW,cF]
     rw [h0]
     simp [jQ,nth]
    | ro=>simp only [aW]; rw [h0]; simp [jQ,nth]
    | full=>simp only [aW]; rw [h0]; simp [jQ,nth]
   | _=>simp only [aW]; rw [h0]; simp [jQ,nth]
  ·have h1:jQ (d::l) i j=jQ l (i+1) j:=by
    unfold jQ
    rw [show j - i=(j - (i+1))+1 from by omega]
    simp only [nth,List.length_cons]
    split
    ·congr 1
     simp only [eq_iff_iff]
     omega
    ·rfl
   rw [h1]
   cases d with
   | slice t z n g =>
    cases t with
    | own q =>
     simp only [aW,cF]
     rw [fV l (i+1)]
     have:Nat.beq j i=false:=by
      cases hh:Nat.beq j i with
      | false=>rfl
      | true=>have:=Nat.eq_of_beq_eq_true hh; omega
     rw [this]
     rfl
    | ro=>simp only [aW]; exact fV l (i+1) tk j
    | full=>simp only [aW]; exact fV l (i+1) tk j
   | _=>simp only [aW]; exact fV l (i+1) tk j
theorem cQ (l:List D):(aZ l).length=l.length:=by
 induction l with
 | nil=>rfl
 | cons d l ih=>simp [aZ,ih]
theorem hU (l:List D) (j:Nat):nth (aZ l) j .dead=(nth l j .dead).res:=by
 induction l generalizing j with
 | nil=>rfl
 | cons d l ih=>cases j with
  | zero=>rfl
  | succ j=>exact ih j
theorem eM (l:List D) (i:Nat):(cJ l i).length=l.length:=by
 induction l generalizing i with
 | nil=>rfl
 | cons d l ih =>
  cases d with
  | slice t z n g=>cases t <;> simp [cJ,ih]
  | _=>simp [cJ,ih]
def D.own (i:Nat):D→D
 | .slice (.own _) z n g=>.slice (.own i) z n g
 | d=>d
theorem nS (l:List D) (i j:Nat):nth (cJ l i) j .dead=(nth l j .dead).own (i+j):=by
 induction l generalizing i j with
 | nil=>rfl
 | cons d l ih =>
  cases j with
  | zero =>
   cases d with
   | slice t z n g=>cases t <;> rfl
   | _=>rfl
  | succ j =>
   have h1:=ih (i+1) j
   rw [show i+1+j=i+(j+1) from by omega] at h1
   cases d with
   | slice t z n g=>cases t <;> exact h1
   | _=>exact h1
theorem bH (w:Bool) (cs:List D):(∃ w' z n g,cs=[.dead,.arr w' z n g]∧eQ w cs=[.dead,.arr w z n g])∨(∃ m c va nl n ks vs,cs=[.dead,.obj m c va nl n ks vs]∧eQ w cs=[.dead,.obj m 0 va nl n ks vs])∨(cV cs=false∧bS cs=false∧eQ w cs=aM cs):=by
 cases h:cV cs with
 | true =>
  obtain ⟨w',z,n,g,rfl⟩:=dR h
  exact .inl ⟨w',z,n,g,rfl,rfl⟩
 | false =>
  cases h2:bS cs with
  | true =>
   obtain ⟨m,c,va,nl,n,ks,vs,rfl⟩:=cG h2
   exact .inr (.inl ⟨m,c,va,nl,n,ks,vs,rfl,rfl⟩)
  | false =>
   refine .inr (.inr ⟨rfl,rfl,?_⟩)
   unfold eQ
   split
   ·cases h
   ·cases h2
   ·rfl
theorem u4 {w:Bool} {cs:List D} (h:fH cs=false):eQ w cs=aM cs:=by
 rcases bH w cs with ⟨_,_,_,_,rfl,_⟩ | ⟨_,_,_,_,_,_,_,rfl,_⟩ | ⟨_,_,h1⟩
 ·cases h
 ·cases h
 ·exact h1
theorem bR {k:Nat} {cs:List D} (h:bS cs=false):nD k cs=cs:=by
 unfold nD
 split
 ·cases h
 ·rfl
theorem bM (cs:List D):fH (aM cs)=false:=by
 cases hh:fH (aM cs) with
 | false=>rfl
 | true =>
  have e:=aU cs 1
  rcases aBJ hh with ⟨_,_,_,_,h⟩ | ⟨_,_,_,_,_,_,_,h⟩ | ⟨_,_,_,_,_,_,h⟩ <;>
   (rw [h] at e; generalize nth cs 1 D.dead=d at e; cases d <;> simp [nth,D.pure1] at e)
theorem tT:∀ (ids:List Nat) (bs:List (List D)) (hp0 hp:Nat→Option (Bool×List D)),dN ids=true→ids.length=bs.length→∀ j x,bX hp (aY hp0 ids bs) j=some x →
  (∃ k,k < ids.length∧ids.getD k 0=j∧x=(false,nD (ctr hp0 j (bs.getD k [])) (eQ (flg hp0 j) (bs.getD k []))))∨(j ∉ ids∧hp j=some x)
 | [],[],hp0,hp,_,_,j,x,h=>.inr ⟨by simp,h⟩
 | [],_::_,_,_,_,h,_,_,_=>by simp at h
 | _::_,[],_,_,_,h,_,_,_=>by simp at h
 | id::ids,b::bs,hp0,hp,hd,hl,j,x,h=>by
  simp only [aY,bX] at h
  have hd2:ids.any (Nat.beq id)=false∧dN ids=true:=by
   simp only [dN] at hd
   cases hh:ids.any (Nat.beq id) with
   | true=>rw [hh] at hd; cases hd
   | false=>rw [hh] at hd; exact ⟨rfl,hd⟩
  rcases tT ids bs hp0 _ hd2.2 (by simpa using hl) j x h with ⟨k,h1,h2,h3⟩ | ⟨h1,h2⟩
  ·exact .inl ⟨k+1,by simpa using h1,by simpa using h2,by simpa using h3⟩
  ·rcases aN h2 with ⟨rfl,rfl⟩ | ⟨h3,h4⟩
   ·exact .inl ⟨0,by simp,by simp,by simp⟩
   ·exact .inr ⟨by simp [h1,h3],h4⟩
theorem dS:∀ {ids:List Nat} {bs:List (List D)},cL hp ids=some bs→ids.length=bs.length∧∀ k,k < ids.length→∃ cs,hp (ids.getD k 0)=some (false,cs)∧bs.getD k []=eQ false cs∧okB (eQ false cs)=true
 | [],bs,h=>by cases h; exact ⟨rfl,fun k hk=>by simp at hk⟩
 | id::l,bs,h=>by
  simp only [cL] at h
  split at h
  ·rename_i cs r h1 h2
   cases hs:okB (eQ false cs) with
   | false=>rw [hs] at h; cases h
   | true =>
    rw [hs] at h
    cases h
    obtain ⟨h3,h4⟩:=dS h2
    refine ⟨by simp [h3],fun k hk=>?_⟩
    cases k with
    | zero=>exact ⟨cs,by simpa using h1,by simp,hs⟩
    | succ k=>simpa using h4 k (by simpa using hk)
  ·cases h
theorem mQ:∀ {l:List Nat},dN l=true→l.Nodup
 | [],_=>List.nodup_nil
 | a::l,h=>by
  simp only [dN] at h
  cases hh:l.any (Nat.beq a) with
  | true=>rw [hh] at h; cases h
  | false =>
   rw [hh] at h
   refine List.nodup_cons.2 ⟨fun hm=>?_,mQ h⟩
   have:=List.any_eq_false.1 hh a hm
   rw [Nat.beq_refl] at this
   exact this rfl
theorem oN:∀ {bs bs':List (List D)},mU bs bs'=true→bs'.length=bs.length∧∀ k,k < bs.length→okB (eQ false (bs'.getD k []))=true∧cV (bs'.getD k [])=cV (bs.getD k [])∧rW (bs.getD k [])=rW (bs'.getD k [])
 | [],[],_=>⟨rfl,fun k hk=>by simp at hk⟩
 | [],_::_,h=>by cases h
 | _::_,[],h=>by cases h
 | b::bs,c::bs',h=>by
  simp only [mU,Bool.and_eq_true] at h
  obtain ⟨⟨⟨⟨h1,h2⟩,h3⟩,h4⟩,h5⟩:=h
  obtain ⟨h6,h7⟩:=oN h5
  refine ⟨by simp [h6],fun k hk=>?_⟩
  cases k with
  | zero =>
   refine ⟨by simpa using h1,?_,?_⟩
   ·simp only [List.getD_cons_zero]
    cases h3:cV b <;> cases h4:cV c <;> simp [h3,h4,eqBB] at h2 ⊢
   ·simp only [List.getD_cons_zero]
    exact Prod.ext (Nat.eq_of_beq_eq_true h3) (Nat.eq_of_beq_eq_true h4)
  | succ k=>simpa using h7 k (by simpa using hk)
theorem vR {cs cs':List D} (h:rW cs=rW cs'):bS cs=bS cs':=by
 have key:∀ l:List D,bS l=true↔(rW l).1≠0:=fun l=>by
  constructor
  ·intro h1
   obtain ⟨m,c,va,nl,n,ks,vs,rfl⟩:=cG h1
   simp [rW]
  ·intro h1
   unfold rW at h1
   split at h1
   ·rfl
   ·exact absurd rfl h1
 cases h1:bS cs with
 | true =>
  have:=(key cs).1 h1
  rw [h] at this
  exact ((key cs').2 this).symm
 | false =>
  cases h2:bS cs' with
  | false=>rfl
  | true =>
   have:=(key cs').1 h2
   rw [← h] at this
   rw [(key cs).2 this] at h1
   cases h1
theorem aK7 {σ':Sg} {B':Nat} {v:Value} {d:D} {i:Nat} (h:tC σ' w' B' v d) {G':Gh} {tk':Nat→Option (Nat×Nat)} (hσ:G'.σ=σ') (hown:∀ q z n g,d=.slice (.own q) z n g→tk' i=some (z,n)∧G'.ρ i=v):Rt F G' tk' v (d.res.own i):=by
 subst hσ
 cases d with
 | agg c =>
  obtain ⟨cs,rfl,h1,h2⟩:=h
  exact .agg cs (aM c) (by rw [aO]; exact h1) fun j hj=>by
   rw [aO] at hj
   rw [aU]
   exact ⟨h2 j hj,(bN _).symm⟩
 | slice t z n g =>
  cases t with
  | own q =>
   obtain ⟨h1,h2⟩:=hown q z n g rfl
   refine .cell (.pure ?_ ?_)
   ·cases h.1 with
    | slice a _ c _ _ _ b o val e1 e2 e3 e4 e5=>exact .slice a n c _ z g b o val e1 e2 e3 e4 e5
   ·intro z' m' hz
    rw [h1] at hz
    cases hz
    exact ⟨Nat.le_refl _,fun _=>h2.symm⟩
  | ro=>exact .cell (.pure h trivial)
  | full=>exact .cell (.pure h trivial)
 | newp l=>exact .cell (.pure (.dead _) trivial)
 | arr w z n g=>exact .cell (.pure (.dead _) trivial)
 | _=>exact .cell (.pure h trivial)
def gJ (G:Gh) (hp:Nat→Option (Bool×List D)) (hs id k:Nat):Nat :=
 match hp id with
 | some (_,[.dead,.arr _ _ n _])=>match G.η id n with
  | some (.slice (some a) _ (_+1))=>a.block
  | _=>hs+k
 | _=>G.β id
def yB (G:Gh) (hp:Nat→Option (Bool×List D)) (hs:Nat):List Nat→Nat→List Nat
 | [],_=>[]
 | id::l,k=>gJ G hp hs id k::yB G hp hs l (k+1)
theorem yX:∀ (l:List Nat) (hs k:Nat),(yB G hp hs l k).length=l.length
 | [],_,_=>rfl
 | id::l,hs,k=>by simp [yB,yX l]
theorem xY:∀ (l:List Nat) (hs k j:Nat),j < l.length→(yB G hp hs l k).getD j 0=gJ G hp hs (l.getD j 0) (k+j)
 | [],_,_,_,h=>by simp at h
 | id::l,hs,k,0,_=>rfl
 | id::l,hs,k,j+1,h=>by
  have:=xY l hs (k+1) j (by simpa using h)
  simp only [yB,List.getD_cons_succ]
  rw [this,show k+1+j=k+(j+1) from by omega]
def vD (G:Gh) (hp:Nat→Option (Bool×List D)) (ids:List Nat):Nat→Nat→Option Value:=fun k m =>
 if k < ids.length then (match hp (ids.getD k 0) with
  | some (_,[.dead,.arr _ _ n _])=>if m=n then G.η (ids.getD k 0) n else none
  | _=>none) else none
def aFV:Option (Bool×List D)→Bool
 | some (_,cs)=>bS cs
 | none=>false
def eB (G:Gh) (hp:Nat→Option (Bool×List D)) (ids:List Nat):Nat→Option Fo:=fun b =>
 match G.φ b with
 | some x=>if ids.any (fun id=>aFV (hp id)&&Nat.beq (G.β id) x.id) then some x else none
 | none=>none
theorem bQ {ids:List Nat} {b:Nat} {x:Fo}:eB G hp ids b=some x↔G.φ b=some x∧∃ k,k < ids.length∧aFV (hp (ids.getD k 0))=true∧G.β (ids.getD k 0)=x.id:=by
 unfold eB
 cases h:G.φ b with
 | none=>simp
 | some y =>
  simp only [List.any_eq_true,Bool.and_eq_true,Option.ite_none_right_eq_some,Option.some.injEq]
  constructor
  ·rintro ⟨⟨id,h1,h2,h3⟩,rfl⟩
   obtain ⟨k,hk,rfl⟩:=List.mem_iff_getElem.1 h1
   have e:ids.getD k 0=ids[k]:=by simp [hk]
   exact ⟨rfl,k,hk,by rw [e]; exact h2,by rw [e]; exact Nat.eq_of_beq_eq_true h3⟩
  ·rintro ⟨rfl,k,hk,h2,h3⟩
   have e:ids.getD k 0=ids[k]:=by simp [hk]
   exact ⟨⟨ids[k],List.getElem_mem hk,by rw [← e]; exact h2,by rw [← e,h3]; exact Nat.beq_refl _⟩,rfl⟩
def eP (G:Gh) (hp:Nat→Option (Bool×List D)) (ids:List Nat):Og:=⟨G.σ,vD G hp ids,eB G hp ids⟩
def cT (G:Gh) (hp:Nat→Option (Bool×List D)) (hs:Nat) (ids:List Nat):List Nat:=yB G hp hs ids 0
theorem lG {ids:List Nat} {hs k:Nat} (hk:k < ids.length):(cT G hp hs ids).getD k 0=gJ G hp hs (ids.getD k 0) k:=by
 have h1:=xY (G:=G) (hp:=hp) ids hs 0 k hk
 rw [Nat.zero_add] at h1
 exact h1
theorem pD {ids:List Nat} {hs:Nat}:(cT G hp hs ids).length=ids.length:=yX _ _ _
theorem aD5 {ids:List Nat} {hs b:Nat} (h:b∈cT G hp hs ids):∃ k,k < ids.length∧b=gJ G hp hs (ids.getD k 0) k:=by
 obtain ⟨k,hk,rfl⟩:=List.mem_iff_getElem.1 h
 have hk':k < ids.length:=by rw [pD] at hk; exact hk
 exact ⟨k,hk',by rw [← lG (G:=G) (hp:=hp) (hs:=hs) hk']; simp [hk]⟩
theorem eL {hs id k:Nat} {f:Bool} {cs:List D} (h:hp id=some (f,cs)) (ha:cV cs=false):gJ G hp hs id k=G.β id:=by
 unfold gJ
 rw [h]
 split
 ·rename_i h1
  cases h1
  cases ha
 ·rfl
theorem sB {hs id k:Nat} {f fw:Bool} {z n:Nat} {g:Nat→List D} {b c:Nat} (h:hp id=some (f,[.dead,.arr fw z n g])) (hη:G.η id n=some (.slice (some ⟨b,0,none⟩) n c)) (hc:0 < c):gJ G hp hs id k=b:=by
 unfold gJ
 rw [h]
 simp only [hη]
 cases c with
 | zero=>omega
 | succ c=>rfl
theorem aDO {hs id k:Nat} {f fw:Bool} {z n:Nat} {g:Nat→List D} {a:Option Addr} (h:hp id=some (f,[.dead,.arr fw z n g])) (hη:G.η id n=some (.slice a n 0)):gJ G hp hs id k=hs+k:=by
 unfold gJ
 rw [h]
 simp only [hη]
theorem oH {ids:List Nat} {k:Nat} {f fw:Bool} {z n:Nat} {g:Nat→List D} (hk:k < ids.length) (h:hp (ids.getD k 0)=some (f,[.dead,.arr fw z n g])) (m:Nat):vD G hp ids k m=if m=n then G.η (ids.getD k 0) n else none:=by
 unfold vD
 rw [if_pos hk,h]
theorem tV (m:Mem F B np w0 ext σ0 G hp tk w) {ids:List Nat} {bs:List (List D)} (hb:cL hp ids=some bs) {k:Nat} (hk:k < ids.length) :
  bT G hp tk (gJ G hp w.heap.size (ids.getD k 0) k) (.inl (ids.getD k 0))∨gJ G hp w.heap.size (ids.getD k 0) k=w.heap.size+k ∨
   ∃ mm c va nl n ks vs o,hp (ids.getD k 0)=some (false,[.dead,.obj mm c va nl n ks vs])∧gJ G hp w.heap.size (ids.getD k 0) k=G.β (ids.getD k 0)∧eB G hp ids (G.β (ids.getD k 0))=some ⟨G.β (ids.getD k 0),0,o⟩:=by
 obtain ⟨_,hbs⟩:=dS hb
 obtain ⟨cs,h1,h2,h3⟩:=hbs k hk
 cases ha:cV cs with
 | false =>
  rw [eL h1 ha]
  cases ho:bS cs with
  | true =>
   obtain ⟨mm,c,va,nl,n,ks,vs,rfl⟩:=cG ho
   obtain ⟨_,_,g,_⟩:=m.obs.objs _ _ _ _ _ _ _ _ h1
   exact .inr (.inr ⟨mm,c,va,nl,n,ks,vs,_,h1,rfl,bQ.2 ⟨g,k,hk,by rw [h1]; rfl,rfl⟩⟩)
  | false =>
   refine .inl ⟨cs,h1,.inl ⟨?_,rfl⟩⟩
   cases hm:eF cs with
   | false=>simp only [fH,ha,ho,hm,Bool.or_self]
   | true =>
    obtain ⟨_,_,_,_,_,_,rfl⟩:=fD hm
    simp [eQ,okB,aM,D.pure1,aI,cV,bS] at h3
 | true =>
  obtain ⟨fw,z,n,g,rfl⟩:=dR ha
  obtain ⟨a,c,hd,_⟩:=m.rows _ fw z n g h1
  by_cases hc:0 < c
  ·obtain ⟨b,rfl⟩:=hd.blk hc
   rw [sB h1 hd.at_ hc]
   exact .inl ⟨_,h1,.inr ⟨fw,z,n,g,c,rfl,hd.at_,hc⟩⟩
  ·have:c=0:=by omega
   subst this
   exact .inr (.inl (aDO h1 hd.at_))
theorem x9 {f:Bool} {cs:List D} (h:okB (eQ f cs)=true):eF cs=false:=by
 cases hm:eF cs with
 | false=>rfl
 | true =>
  obtain ⟨_,_,_,_,_,_,rfl⟩:=fD hm
  simp [eQ,okB,aM,D.pure1,aI,cV,bS] at h
def orφ (φ' φ:Nat→Option Fo):Nat→Option Fo:=fun b=>match φ' b with
 | some x=>some x
 | none=>φ b
theorem gR {φ' φ:Nat→Option Fo} {b:Nat} {x:Fo} (h:φ' b=some x):orφ φ' φ b=some x:=by unfold orφ; rw [h]
theorem oD {φ' φ:Nat→Option Fo} {b:Nat} (h:φ' b=none):orφ φ' φ b=φ b:=by unfold orφ; rw [h]
section objs
variable {ids:List Nat} {bs bs':List (List D)} {σ':Sg} {rs:List D} {vs:Array Value} {φ':Nat→Option Fo}
theorem iV (m:Mem F B np w0 ext σ0 G hp tk w) (po:q7 (eP G hp ids) w.heap.size (cT G hp w.heap.size ids) w' σ' rs bs' vs φ'):∀ b x,G.φ b=some x→∃ o,orφ φ' G.φ b=some ⟨x.id,x.q,o⟩:=fun b x h=>by
 cases hp':φ' b with
 | none=>exact ⟨x.ob,by rw [oD hp']; exact h⟩
 | some y =>
  rcases po.fresh b y hp' with ⟨o,h1⟩ | h1
  ·have h2:=(bQ.1 h1).1
   rw [h] at h2
   cases h2
   exact ⟨y.ob,gR hp'⟩
  ·obtain ⟨_,_,_,_,h2⟩:=m.frn b x h
   have:=(Array.getElem?_eq_some_iff.1 h2).1
   omega
theorem fR (m:Mem F B np w0 ext σ0 G hp tk w) (po:q7 (eP G hp ids) w.heap.size (cT G hp w.heap.size ids) w' σ' rs bs' vs φ') {b:Nat} {x:Fo} (h:orφ φ' G.φ b=some x) :
  (φ' b=some x∧∃ k,k < ids.length∧aFV (hp (ids.getD k 0))=true∧G.β (ids.getD k 0)=x.id)∨(φ' b=none∧G.φ b=some x∧¬∃ k,k < ids.length∧aFV (hp (ids.getD k 0))=true∧G.β (ids.getD k 0)=x.id):=by
 cases hp':φ' b with
 | some y =>
  rw [gR hp'] at h
  cases h
  obtain ⟨o,h1⟩:=po.hdr b x hp'
  exact .inl ⟨rfl,(bQ.1 h1).2⟩
 | none =>
  rw [oD hp'] at h
  refine .inr ⟨rfl,h,fun hk=>?_⟩
  obtain ⟨o,h1⟩:=po.mono b x (bQ.2 ⟨h,hk⟩)
  rw [hp'] at h1
  cases h1
theorem oM (m:Mem F B np w0 ext σ0 G hp tk w) (po:q7 (eP G hp ids) w.heap.size (cT G hp w.heap.size ids) w' σ' rs bs' vs φ') {b:Nat} {x:Fo} (h:G.φ b=some x) (hn:¬∃ k,k < ids.length∧aFV (hp (ids.getD k 0))=true∧G.β (ids.getD k 0)=x.id):orφ φ' G.φ b=some x∧φ' b=none:=by
 cases hp':φ' b with
 | none=>exact ⟨by rw [oD hp']; exact h,rfl⟩
 | some y =>
  exfalso
  obtain ⟨o,h1⟩:=iV m po b x h
  rw [gR hp'] at h1
  cases h1
  obtain ⟨o2,h2⟩:=po.hdr b _ hp'
  exact hn (bQ.1 h2).2
end objs
theorem wJ (r:Rel F B np w0 ext σ0 G s a w) {id:Nat} (hnp:np≤id) (hcl:Clean id (id+4) s) {ids:List Nat} {bs bs':List (List D)} (hb:cL s.hp ids=some bs) (hd:dN ids=true) {σ':Sg} {rs:List D} {vs:Array Value}
  (post:CPost (eP G s.hp ids) w (cT G s.hp w.heap.size ids) w' σ' rs bs' vs) {φ':Nat→Option Fo} (po:q7 (eP G s.hp ids) w.heap.size (cT G s.hp w.heap.size ids) w' σ' rs bs' vs φ') (hback:mU bs bs'=true) (h4:rs.length≤4) :
  ∃ G',G'.σ=σ'∧G'.γ=G.γ∧G'.φ=orφ φ' G.φ∧Keeps id (id+4) G G' s.tk (cF s.tk (aW (aZ rs) id))∧Mem F B np w0 ext σ0 G' (bX s.hp (aY s.hp ids bs')) (cF s.tk (aW (aZ rs) id)) w' ∧
   (∀ b k,bT G' (bX s.hp (aY s.hp ids bs')) (cF s.tk (aW (aZ rs) id)) b k→b < w.heap.size∨∃ j q z n g,j < rs.length∧nth rs j .dead=.slice (.own q) z n g) ∧
   ∀ j,j < rs.length→Rt F G' (cF s.tk (aW (aZ rs) id)) (vs.getD j undef) (nth (cJ (aZ rs) id) j .dead):=by
 have m:=r.mem
 obtain ⟨hl,hbs⟩:=dS hb
 obtain ⟨hlen,hbk⟩:=oN hback
 have hxl:(cT G s.hp w.heap.size ids).length=ids.length:=pD
 have hext:∀ k,k < ids.length→(cT G s.hp w.heap.size ids).getD k 0=gJ G s.hp w.heap.size (ids.getD k 0) k:=fun k hk=>lG hk
 have hlt:=fun k (hk:k < ids.length)=>tV m hb hk
 have hφlt:∀ b x,G.φ b=some x→b < w.heap.size:=fun b x hx=>(Array.getElem?_eq_some_iff.1 (m.frn b x hx).2.2.2.2).1
 have hrow:∀ k f z n g,k < ids.length→bs'.getD k []=[.dead,.arr f z n g]→∃ fw z0 g0 a c,s.hp (ids.getD k 0)=some (false,[.dead,.arr fw z0 n g0])∧aKB np σ0.η G.η (ids.getD k 0) fw n a c ∧
   (∀ b,a=some ⟨b,0,none⟩→0 < c→gJ G s.hp w.heap.size (ids.getD k 0) k=b∧b < w.heap.size∧(∀ q,G.σ b q=none)∧∃ o,w'.heap[b]? = some o∧RowO σ' o z n c g):=by
  intro k f z n g hk hbk'
  obtain ⟨cs0,h5,h6,_⟩:=hbs k hk
  have ha:cV cs0=true:=by
   have h1:=(hbk k (by omega)).2.1
   rw [hbk'] at h1
   rcases bH false cs0 with ⟨_,_,_,_,rfl,_⟩ | ⟨_,_,_,_,_,_,_,_,h8⟩ | ⟨_,_,h8⟩
   ·rfl
   ·rw [h6,h8] at h1
    cases h1
   ·rw [h6,h8,kY (bM cs0)] at h1
    cases h1
  obtain ⟨fw,z0,n0,g0,rfl⟩:=dR ha
  obtain ⟨a,c,h7,h8⟩:=m.rows _ fw z0 n0 g0 h5
  obtain ⟨a',c',h9,h10⟩:=post.rows k f z n g (by omega) (by omega) hbk'
  have h11:vD G s.hp ids k n=some (.slice a' n c'):=h9
  rw [oH hk h5] at h11
  by_cases hn:n=n0
  ·subst hn
   rw [if_pos rfl,h7.at_] at h11
   cases h11
   refine ⟨fw,z0,g0,a,c,h5,h7,fun b hab hc=>?_⟩
   subst hab
   have h12:=sB (hs:=w.heap.size) (k:=k) h5 h7.at_ hc
   obtain ⟨h13,o,h14,_⟩:=h8 b rfl hc
   obtain ⟨o',h15,h16⟩:=h10 b rfl hc
   exact ⟨h12,(Array.getElem?_eq_some_iff.1 h14).1,h13,o',h15,h16⟩
  ·rw [if_neg hn] at h11
   cases h11
 have hflat:∀ k,k < ids.length→cV (bs'.getD k [])=false→bS (bs'.getD k [])=false→∃ cs0,s.hp (ids.getD k 0)=some (false,cs0)∧fH cs0=false:=by
  intro k hk h1 h1'
  obtain ⟨cs0,h5,h6,h60⟩:=hbs k hk
  refine ⟨cs0,h5,?_⟩
  have h2:=(hbk k (by omega)).2.1
  have h3:=vR (hbk k (by omega)).2.2
  rw [h1,h6] at h2
  rw [h1',h6] at h3
  rcases bH false cs0 with ⟨_,_,_,_,rfl,h8⟩ | ⟨_,_,_,_,_,_,_,rfl,h8⟩ | ⟨h7,h7',h8⟩
  ·rw [h8] at h2
   cases h2
  ·rw [h8] at h3
   cases h3
  ·simp only [fH,h7,h7',x9 h60,Bool.or_self]
 have hobj:∀ k m1 c va nl n ks vs,k < ids.length→bs'.getD k []=[.dead,.obj m1 c va nl n ks vs]→∃ c0 nl0 n0 ks0 vs0,s.hp (ids.getD k 0)=some (false,[.dead,.obj m1 c0 va nl0 n0 ks0 vs0]):=by
  intro k m1 c va nl n ks vs hk h1
  obtain ⟨cs0,h5,h6,h60⟩:=hbs k hk
  have h3:=(hbk k (by omega)).2.2
  rw [h6,h1] at h3
  rcases bH false cs0 with ⟨_,_,_,_,rfl,h8⟩ | ⟨_,_,_,_,_,_,_,rfl,h8⟩ | ⟨h7,h7',h8⟩
  ·rw [h8] at h3
   simp [rW] at h3
  ·rw [h8] at h3
   simp only [rW,Prod.mk.injEq,Nat.add_right_cancel_iff] at h3
   obtain ⟨rfl,rfl⟩:=h3
   exact ⟨_,_,_,_,_,h5⟩
  ·have:=vR h3
   rw [h8,bL (bM cs0)] at this
   cases this
 let G':Gh:=⟨σ',G.β,fun i=>if id≤i∧i < id+rs.length then vs.getD (i - id) undef else G.ρ i,G.η,G.γ,orφ φ' G.φ⟩
 have htk:∀ j z n,cF s.tk (aW (aZ rs) id) j=some (z,n)→(id≤j∧j < id+rs.length∧∃ q g,nth rs (j - id) .dead=.slice (.own q) z n g)∨(s.tk j=some (z,n)∧¬(id≤j∧j < id+4)):=by
  intro j z n h
  rw [fV] at h
  split at h
  ·rename_i e he
   cases h
   unfold jQ at he
   split at he
   ·rename_i q z' n' g hq
    split at he
    ·rename_i hr
     cases he
     rw [cQ] at hr
     rw [hU] at hq
     refine .inl ⟨hr.1,hr.2,q,g,?_⟩
     generalize nth rs (j - id) .dead=d at hq
     cases d with
     | slice t z' n' g'=>cases t <;> simp_all [D.res,D.pure1]
     | _=>simp [D.res,D.pure1] at hq
    ·cases he
   ·cases he
  ·exact .inr ⟨h,hcl.tk _ _ h⟩
 have keeps:Keeps id (id+4) G G' s.tk (cF s.tk (aW (aZ rs) id)):=by
  refine ⟨post.le,fun _ _=>rfl,fun i z n hi h=>?_,fun _ _ _ _ h=>h,iV m po⟩
  rcases htk i z n h with ⟨h1,h2,_⟩ | ⟨h1,_⟩
  ·exact absurd ⟨h1,by omega⟩ hi
  ·exact ⟨z,n,h1,Nat.le_refl _,fun _=>by show (if id≤i∧i < id+rs.length then _ else G.ρ i)=G.ρ i; rw [if_neg (by omega)]⟩
 have keepB:∀ b,b < w.heap.size→(∀ k,k < ids.length→b≠gJ G s.hp w.heap.size (ids.getD k 0) k)→eB G s.hp ids b=none→w'.heap[b]? = w.heap[b]?:=fun b h1 h2 h3=>post.keep b h1 (fun h=>by
  obtain ⟨k,hk,h4⟩:=aD5 h
  exact h2 k hk h4) h3
 have nφ:∀ b,G.φ b=none→eB G s.hp ids b=none:=fun b h=>by
  cases hh:eB G s.hp ids b with
  | none=>rfl
  | some x =>
   have:=(bQ.1 hh).1
   rw [h] at this
   cases this
 have ownφ:∀ b k0,bT G s.hp s.tk b k0→G.φ b=none:=fun b k0 h=>by
  cases hh:G.φ b with
  | none=>rfl
  | some x=>exact absurd h ((m.frn b x hh).2.1 k0)
 have keepO:∀ b k0,bT G s.hp s.tk b k0→(∀ k,k < ids.length→k0≠.inl (ids.getD k 0))→w'.heap[b]? = w.heap[b]?:=fun b k0 h1 h2=>keepB b (m.own_lt h1) (fun k hk hh=>by
  rcases hlt k hk with h3 | h3 | ⟨_,_,_,_,_,_,_,o,_,h3,h4⟩
  ·rw [← hh] at h3
   exact h2 k hk (m.own1 _ _ _ h1 h3)
  ·have:=m.own_lt h1
   omega
  ·rw [h3] at hh
   have:=nφ _ (ownφ _ _ h1)
   rw [hh,h4] at this
   cases this) (nφ _ (ownφ _ _ h1))
 have resAt:∀ j q z n g,id≤j→j < id+rs.length→nth rs (j - id) .dead=.slice (.own q) z n g→∃ a' c,G'.ρ j=.slice a' n c∧n≤c∧(n < c→∃ b cur e,a'=some ⟨b,0,none⟩∧w'.heap[b]? = some (.cells cur e (0,0))∧cur.size=c * z∧(∀ o,n * z≤o→σ' b o=none)∧w.heap.size≤b):=by
  intro j q z n g h1 h2 h3
  have:=post.res (j - id) (by omega)
  rw [h3] at this
  obtain ⟨_,a',c,h5,h6,h7⟩:=this
  refine ⟨a',c,?_,h6,h7⟩
  show (if id≤j∧j < id+rs.length then _ else _)=_
  rw [if_pos ⟨h1,h2⟩,h5]
 have hz:=tT ids bs' s.hp s.hp hd (by omega)
 have hpos:∀ k,k < ids.length→ids.getD k 0∈ids:=fun k hk=>by rw [List.getD_eq_getElem?_getD]; simp [hk]
 have hown:∀ b k,bT G' (bX s.hp (aY s.hp ids bs')) (cF s.tk (aW (aZ rs) id)) b k→bT G s.hp s.tk b k∨(w.heap.size≤b∧∃ j,k=.inr j∧id≤j∧j < id+rs.length∧dB (vs.getD (j - id) undef) (nth rs (j - id) .dead) b):=by
  intro b k hk
  cases k with
  | inl j =>
   obtain ⟨cs,h1,h2⟩:=hk
   have h2:Blk G j cs b:=h2
   rcases hz j _ h1 with ⟨k,hk,rfl,h3⟩ | ⟨_,h3⟩
   ·simp only [Prod.mk.injEq,true_and] at h3
    rcases bH (flg s.hp (ids.getD k 0)) (bs'.getD k []) with ⟨f,z,n,g,e1,e2⟩ | ⟨_,_,_,_,_,_,_,e1,e2⟩ | ⟨e1,e1',e2⟩
    ·rw [e2,bR rfl] at h3
     subst h3
     obtain ⟨fw,z0,g0,a',c,h5,h6,_⟩:=hrow k f z n g hk e1
     rcases h2 with ⟨h7,_⟩ | ⟨_,_,_,_,c',h7,h8,h9⟩
     ·cases h7
     ·cases h7
      exact .inl ⟨_,h5,.inr ⟨_,_,_,_,c',rfl,h8,h9⟩⟩
    ·rw [e2] at h3
     subst h3
     exfalso
     rcases h2 with ⟨h7,_⟩ | ⟨_,_,_,_,_,h7,_⟩
     ·cases h7
     ·cases h7
    ·obtain ⟨cs0,h5,h6⟩:=hflat k hk e1 e1'
     refine .inl ⟨cs0,h5,.inl ⟨h6,h2.flat ?_⟩⟩
     rw [h3,e2,bR (bL (bM _))]
     exact bM _
   ·exact .inl ⟨cs,h3,h2⟩
  | inr j =>
   obtain ⟨z,n,c,h1,h2,h3⟩:=hk
   rcases htk j z n h1 with ⟨h5,h6,q,g,h7⟩ | ⟨h5,h6⟩
   ·obtain ⟨a',c',h8,h9,h10⟩:=resAt j q z n g h5 h6 h7
    rw [h2] at h8
    cases h8
    obtain ⟨b',cur,e,h11,_,_,_,h12⟩:=h10 h3
    cases h11
    refine .inr ⟨h12,j,rfl,h5,h6,q,z,n,g,c,h7,?_,h3⟩
    have:G'.ρ j=vs.getD (j - id) undef:=by
     show (if id≤j∧j < id+rs.length then _ else _)=_
     rw [if_pos ⟨h5,h6⟩]
    rw [← this]
    exact h2
   ·refine .inl ⟨z,n,c,h5,?_,h3⟩
    rw [← h2]
    show G.ρ j=(if id≤j∧j < id+rs.length then _ else G.ρ j)
    rw [if_neg (by omega)]
 have mem:Mem F B np w0 ext σ0 G' (bX s.hp (aY s.hp ids bs')) (cF s.tk (aW (aZ rs) id)) w':=by
  refine ⟨post.stab,fun b o hB=>?_,post.os.trans m.os,post.tape.trans m.tape,post.output.trans m.output,Nat.le_trans m.base post.base,fun b hB he hf=>?_,fun j cs h hna=>?_,fun j fw z n g h=>?_,fun j cs h=>?_,fun j z n h=>?_,fun b k k' h h'=>?_,fun b k h=>?_,fun b r hr=>?_,fun j x va n ks vs h hx=>?_,fun b x hx=>?_,fun b x hx=>?_,?_,fun j x va n ks vs h=>?_⟩
  ·rw [← m.old b o hB]
   exact post.old b o (Nat.lt_of_lt_of_le hB m.base)
  ·rw [← m.keep b hB he hf]
   have hb0:=m.base
   have hφb:G.φ b=none:=by
    cases hh:G.φ b with
    | none=>rfl
    | some x =>
     rcases (m.frn b x hh).1 with h | ⟨o,h⟩
     ·omega
     ·rw [hf] at h
      cases h
   refine keepB b (Nat.lt_of_lt_of_le hB m.base) (fun k hk hbk=>?_) (nφ b hφb)
   rcases hlt k hk with h | h | ⟨_,_,_,_,_,_,_,o,_,h,h'⟩
   ·rcases m.own2 _ _ h with h | ⟨h,_⟩
    ·omega
    ·rw [← hbk] at h
     exact he h
   ·omega
   ·rw [h] at hbk
    have:=nφ b hφb
    rw [hbk,h'] at this
    cases this
  ·rcases hz j _ h with ⟨k,hk,rfl,h3⟩ | ⟨h2,h3⟩
   ·simp only [Prod.mk.injEq,true_and] at h3
    subst h3
    rcases bH (flg s.hp (ids.getD k 0)) (bs'.getD k []) with ⟨f,z,n,g,e1,e2⟩ | ⟨_,_,_,_,_,_,_,e1,e2⟩ | ⟨e1,e1',e2⟩
    ·rw [e2] at hna
     cases hna
    ·rw [e2] at hna
     cases hna
    ·rw [e2,bR (bL (bM _))] at hna ⊢
     obtain ⟨cs0,h5,h50⟩:=hflat k hk e1 e1'
     obtain ⟨_,_,_,h6⟩:=m.vars _ cs0 h5 h50
     have ow:bT G s.hp s.tk (G.β (ids.getD k 0)) (.inl (ids.getD k 0)):=⟨cs0,h5,.inl ⟨h50,rfl⟩⟩
     have hsol:aI (aM (bs'.getD k []))=true:=by
      have:=(hbk k (by omega)).1
      rcases bH false (bs'.getD k []) with ⟨_,_,_,_,e3,_⟩ | ⟨_,_,_,_,_,_,_,e3,_⟩ | ⟨_,_,e3⟩
      ·rw [e3] at e1; cases e1
      ·rw [e3] at e1'; cases e1'
      ·rw [e3] at this
       unfold okB at this
       rw [kY hna,bL hna,Bool.or_false,Bool.or_false] at this
       exact this
     obtain ⟨c,e,h7,h8,h9⟩:=post.blocks k (by omega) (by omega) hsol
     rw [hext k hk,eL h5 (kY h50)] at h7
     refine ⟨_,h7,.inl ⟨hsol,c,e,rfl,by rw [aO]; exact h8,fun q hq=>?_⟩,fun o=>?_⟩
     ·rw [aO] at hq
      rw [aU]
      exact .pure (h9 q hq) (b9 _ _)
     ·show σ' (G.β _) o=none
      rw [post.old _ o (m.own_lt ow)]
      exact h6 o
   ·obtain ⟨o1,h6,h8,h9⟩:=m.vars j cs h3 hna
    have ow:bT G s.hp s.tk (G.β j) (.inl j):=⟨cs,h3,.inl ⟨hna,rfl⟩⟩
    refine ⟨o1,?_,h8.imp fun q v hq hr=>hr.keep keeps (dQ (hcl.hp j _ cs h3).2 hq),fun o=>?_⟩
    ·show w'.heap[G.β j]? = _
     rw [keepO _ _ ow fun k hk hh=>h2 (by cases hh; exact hpos k hk)]
     exact h6
    ·show σ' (G.β j) o=none
     rw [post.old _ o (m.own_lt ow)]
     exact h9 o
  ·rcases hz j _ h with ⟨k,hk,rfl,h3⟩ | ⟨h2,h3⟩
   ·simp only [Prod.mk.injEq,true_and] at h3
    rcases bH (flg s.hp (ids.getD k 0)) (bs'.getD k []) with ⟨f,z1,n1,g1,e1,e2⟩ | ⟨_,_,_,_,_,_,_,e1,e2⟩ | ⟨e1,e1',e2⟩
    ·rw [e2,bR rfl] at h3
     obtain ⟨fw0,z0,g0,a',c,h5,h6,h7⟩:=hrow k f z1 n1 g1 hk e1
     have hfl:flg s.hp (ids.getD k 0)=fw0:=by unfold flg; rw [h5]
     rw [hfl] at h3
     cases h3
     refine ⟨a',c,h6,fun b hb hc=>?_⟩
     obtain ⟨_,h8,h9,o,h10,h11⟩:=h7 b hb hc
     exact ⟨fun q=>(post.old b q h8).trans (h9 q),o,h10,h11⟩
    ·rw [e2] at h3
     cases h3
    ·rw [e2,bR (bL (bM _))] at h3
     have e4:=bM (bs'.getD k [])
     rw [← h3] at e4
     cases e4
   ·obtain ⟨a',c,h6,h7⟩:=m.rows j fw z n g h3
    refine ⟨a',c,h6,fun b hb hc=>?_⟩
    obtain ⟨h9,o,h10,h11⟩:=h7 b hb hc
    have ow:bT G s.hp s.tk b (.inl j):=⟨_,h3,.inr ⟨fw,z,n,g,c,rfl,by rw [h6.at_,hb],hc⟩⟩
    refine ⟨fun q=>(post.old b q (m.own_lt ow)).trans (h9 q),o,?_,h11.mono post.le⟩
    rw [keepO _ _ ow fun k hk hh=>h2 (by cases hh; exact hpos k hk)]
    exact h10
  ·rcases hz j _ h with ⟨k,hk,h2,h3⟩ | ⟨h2,h3⟩
   ·cases h3
   ·intro q hq
    obtain ⟨v,h5,h6,h7⟩:=m.froz j cs h3 q hq
    exact ⟨v,post.le _ _ _ h5,h6.mono post.le,h7⟩
  ·rcases htk j z n h with ⟨h5,h6,q,g,h7⟩ | ⟨h5,h6⟩
   ·obtain ⟨a',c',h8,h9,h10⟩:=resAt j q z n g h5 h6 h7
    refine ⟨a',c',h8,h9,fun hn=>?_⟩
    obtain ⟨b,cur,e,e1,e2,e3,e4,_⟩:=h10 hn
    exact ⟨b,cur,e,e1,e2,e3,e4⟩
   ·obtain ⟨a',c',h8,h9,h10⟩:=m.toks j z n h5
    refine ⟨a',c',?_,h9,fun hn=>?_⟩
    ·show (if id≤j∧j < id+rs.length then _ else G.ρ j)=_
     rw [if_neg (by omega)]
     exact h8
    ·obtain ⟨b,cur,e,e1,e2,e3,e4⟩:=h10 hn
     have ow:bT G s.hp s.tk b (.inr j):=⟨z,n,c',h5,by rw [h8,e1],hn⟩
     refine ⟨b,cur,e,e1,?_,e3,fun o ho=>?_⟩
     ·rw [keepO _ _ ow fun k hk hh=>by cases hh]
      exact e2
     ·show σ' b o=none
      rw [post.old _ o (m.own_lt ow)]
      exact e4 o ho
  ·rcases hown b k h with h1 | ⟨h1,j,rfl,h2,h3,h5⟩
   ·rcases hown b k' h' with h6 | ⟨h6,_⟩
    ·exact m.own1 b k k' h1 h6
    ·have:=m.own_lt h1
     omega
   ·rcases hown b k' h' with h6 | ⟨h6,j',rfl,h7,h8,h9⟩
    ·have:=m.own_lt h6
     omega
    ·have:=post.own (j - id) (j' - id) b (by omega) (by omega) h5 h9
     congr 1
     omega
  ·rcases hown b k h with h1 | ⟨h1,_⟩
   ·exact m.own2 b k h1
   ·exact .inl (Nat.le_trans m.base h1)
  ·obtain ⟨h1,h2,h3,cur,e,h5,h6⟩:=m.resv b r hr
   have hlt2:=(Array.getElem?_eq_some_iff.1 h5).1
   refine ⟨h1,fun k hk=>?_,fun o ho=>(post.old b o hlt2).trans (h3 o ho),cur,e,?_,h6⟩
   ·rcases hown b k hk with h7 | ⟨h7,_⟩
    ·exact h2 k h7
    ·omega
   ·have hφb:G.φ b=none:=by
     cases hh:G.φ b with
     | none=>rfl
     | some x =>
      have:=(m.frn b x hh).2.2.2.1
      rw [show G.γ b=some r from hr] at this
      cases this
    rw [keepB b hlt2 (fun k hk hh=>?_) (nφ b hφb)]
    ·exact h5
    ·rcases hlt k hk with h7 | h7 | ⟨_,_,_,_,_,_,_,o,_,h7,h8⟩
     ·exact h2 _ (hh ▸ h7)
     ·omega
     ·rw [h7] at hh
      have:=nφ b hφb
      rw [hh,h8] at this
      cases this
  ·rcases hz j _ h with ⟨k,hk,rfl,h3⟩ | ⟨h2,h3⟩
   ·simp only [Prod.mk.injEq,true_and] at h3
    rcases bH (flg s.hp (ids.getD k 0)) (bs'.getD k []) with ⟨f,z1,n1,g1,e1,e2⟩ | ⟨_,_,_,_,_,_,_,e1,e2⟩ | ⟨e1,e1',e2⟩
    ·rw [e2,bR rfl] at h3
     cases h3
    ·rw [e2] at h3
     cases h3
    ·rw [e2,bR (bL (bM _))] at h3
     have e4:=aU (bs'.getD k []) 1
     rw [← h3] at e4
     generalize nth (bs'.getD k []) 1 D.dead=d at e4
     cases d <;> simp [nth,D.pure1] at e4
   ·obtain ⟨h5,es,ck,h6,h7⟩:=m.lins j x va n ks vs h3 hx
    have ow:bT G s.hp s.tk (G.β j) (.inl j):=⟨_,h3,.inl ⟨by cases x <;> rfl,rfl⟩⟩
    refine ⟨h5,es,ck,?_,h7⟩
    show w'.heap[G.β j]? = _
    rw [keepO _ _ ow fun k hk hh=>h2 (by cases hh; exact hpos k hk)]
    exact h6
  ·-- objects' blocks
   have hx:orφ φ' G.φ b=some x:=hx
   have hres:∀ k0,bT G' (bX s.hp (aY s.hp ids bs')) (cF s.tk (aW (aZ rs) id)) b k0→bT G s.hp s.tk b k0∨(w.heap.size≤b∧φ' b=none):=fun k0 hk0=>by
    rcases hown b k0 hk0 with h | ⟨h,j,rfl,h2,h3,h5⟩
    ·exact .inl h
    ·exact .inr ⟨h,po.res (j - id) b (by omega) (.inl h5)⟩
   rcases fR m po hx with ⟨h1,k,hk,h2,h3⟩ | ⟨h1,h2,h3⟩
   ·obtain ⟨h5,h6⟩:=po.heap b x h1
    have hold:(∃ o,G.φ b=some ⟨x.id,x.q,o⟩)∨w.heap.size≤b:=by
     rcases po.fresh b x h1 with ⟨o,h7⟩ | h7
     ·exact .inl ⟨o,(bQ.1 h7).1⟩
     ·exact .inr h7
    refine ⟨?_,fun k0 hk0=>?_,h6,?_,h5⟩
    ·rcases hold with ⟨o,h7⟩ | h7
     ·exact (m.frn b _ h7).1
     ·exact .inl (Nat.le_trans m.base h7)
    ·rcases hres k0 hk0 with h8 | ⟨_,h8⟩
     ·rcases hold with ⟨o,h7⟩ | h7
      ·exact (m.frn b _ h7).2.1 k0 h8
      ·have:=m.own_lt h8
       omega
     ·rw [h1] at h8
      cases h8
    ·rcases hold with ⟨o,h7⟩ | h7
     ·exact (m.frn b _ h7).2.2.2.1
     ·show G.γ b=none
      cases hg:G.γ b with
      | none=>rfl
      | some r2 =>
       obtain ⟨_,_,_,_,_,h8,_⟩:=m.resv b r2 hg
       have:=(Array.getElem?_eq_some_iff.1 h8).1
       omega
   ·obtain ⟨g1,g2,g3,g4,g5⟩:=m.frn b x h2
    have hlt2:=hφlt b x h2
    have hcn:eB G s.hp ids b=none:=by
     cases hh:eB G s.hp ids b with
     | none=>rfl
     | some y =>
      obtain ⟨e1,e2⟩:=bQ.1 hh
      rw [h2] at e1
      cases e1
      exact absurd e2 h3
    refine ⟨g1,fun k0 hk0=>?_,fun o=>(post.old b o hlt2).trans (g3 o),g4,?_⟩
    ·rcases hres k0 hk0 with h8 | ⟨h8,_⟩
     ·exact g2 k0 h8
     ·omega
    ·rw [keepB b hlt2 (fun k hk hh=>?_) hcn]
     ·exact g5
     ·rcases hlt k hk with h7 | h7 | ⟨_,_,_,_,_,_,_,o,_,h7,h8⟩
      ·exact g2 _ (hh ▸ h7)
      ·omega
      ·rw [h7] at hh
       rw [hh,h8] at hcn
       cases hcn
  ·obtain ⟨o,h1⟩:=m.omono b x hx
   exact iV m po b ⟨x.id,x.q,o⟩ h1
  ·-- the objects
   have hsrc:∀ j cs,bX s.hp (aY s.hp ids bs') j=some (false,cs)→bS cs=true∨eF cs=true→∃ cs0,s.hp j=some (false,cs0)∧(bS cs0=true∨eF cs0=true):=fun j cs h ho=>by
    rcases hz j _ h with ⟨k,hk,rfl,h3⟩ | ⟨_,h3⟩
    ·simp only [Prod.mk.injEq,true_and] at h3
     subst h3
     rcases bH (flg s.hp (ids.getD k 0)) (bs'.getD k []) with ⟨f,z,n,g,e1,e2⟩ | ⟨_,_,_,_,_,_,_,e1,e2⟩ | ⟨e1,e1',e2⟩
     ·rw [e2,bR rfl] at ho
      rcases ho with ho | ho <;> cases ho
     ·obtain ⟨_,_,_,_,_,h5⟩:=hobj k _ _ _ _ _ _ _ hk e1
      exact ⟨_,h5,.inl rfl⟩
     ·rw [e2,bR (bL (bM _))] at ho
      rw [bL (bM _),hT (bM _)] at ho
      rcases ho with ho | ho <;> cases ho
    ·exact ⟨cs,h3,ho⟩
   have hnp2:∀ j cs,s.hp j=some (false,cs)→(bS cs=true∨eF cs=true)→j ∉ ids∨eF cs=true→¬∃ k,k < ids.length∧aFV (s.hp (ids.getD k 0))=true∧G.β (ids.getD k 0)=G.β j:=fun j cs hj ho hn ⟨k,hk,h1,h2⟩=>by
    cases hh:s.hp (ids.getD k 0) with
    | none=>rw [hh] at h1; cases h1
    | some e =>
     obtain ⟨f,cs2⟩:=e
     rw [hh] at h1
     have h1:bS cs2=true:=h1
     obtain ⟨cs3,h5,_⟩:=hbs k hk
     rw [hh] at h5
     cases h5
     have h6:=m.obs.inj _ _ _ _ hh hj (.inl h1) ho h2
     rcases hn with hn | hn
     ·exact hn (h6 ▸ hpos k hk)
     ·rw [h6,hj] at hh
      cases hh
      obtain ⟨_,_,_,_,_,_,rfl⟩:=fD hn
      cases h1
   refine ⟨fun b b' x x' e1 e2 e3 e4=>?_,fun b x e=>?_,fun j j' cs cs' e1 e2 o1 o2 e3=>?_,fun j m1 c va nl n ks vs h=>?_,fun j i2 j2 b c k0 q h=>?_,fun j m1 va nl n ks vs hjn h b x hb0 hx=>?_⟩
   ·rcases fR m po e1 with ⟨h1,h2⟩ | ⟨_,h1,h2⟩
    ·rcases fR m po e2 with ⟨h3,_⟩ | ⟨_,_,h3⟩
     ·exact po.uniq b b' x x' h1 h3 e3 e4
     ·rw [e3] at h2
      exact absurd h2 h3
    ·rcases fR m po e2 with ⟨_,h3⟩ | ⟨_,h3,_⟩
     ·rw [← e3] at h3
      exact absurd h3 h2
     ·exact m.obs.uniq b b' x x' h1 h3 e3 e4
   ·rcases fR m po e with ⟨h1,_⟩ | ⟨_,h1,_⟩
    ·obtain ⟨o,h2⟩:=po.hdr b x h1
     obtain ⟨o',h3⟩:=po.mono _ _ h2
     exact ⟨o',gR h3⟩
    ·obtain ⟨o,h2⟩:=m.obs.hdr b x h1
     exact iV m po _ _ h2
   ·obtain ⟨c1,h1,h2⟩:=hsrc j cs e1 o1
    obtain ⟨c2,h3,h5⟩:=hsrc j' cs' e2 o2
    exact m.obs.inj j j' c1 c2 h1 h3 h2 h5 e3
   ·show ObjAt G' (G.β j) m1 va nl n ks vs
    rcases hz j _ h with ⟨k,hk,rfl,h3⟩ | ⟨hj,h3⟩
    ·simp only [Prod.mk.injEq,true_and] at h3
     rcases bH (flg s.hp (ids.getD k 0)) (bs'.getD k []) with ⟨f,z,n2,g,e1,e2⟩ | ⟨m2,c2,va2,nl2,n2,ks2,vs2,e1,e2⟩ | ⟨e1,e1',e2⟩
     ·rw [e2,bR rfl] at h3
      cases h3
     ·rw [e2] at h3
      cases h3
      obtain ⟨c0,nl0,n0,ks0,vs0,h5⟩:=hobj k _ _ _ _ _ _ _ hk e1
      have hxk:(cT G s.hp w.heap.size ids).getD k 0=G.β (ids.getD k 0):=by
       rw [hext k hk,eL h5 rfl]
      obtain ⟨_,_,g0,_⟩:=m.obs.objs _ _ _ _ _ _ _ _ h5
      have hc0:eB G s.hp ids (G.β (ids.getD k 0))=some ⟨G.β (ids.getD k 0),0,_⟩:=bQ.2 ⟨g0,k,hk,by rw [h5]; rfl,rfl⟩
      have g:=po.objs k m1 c2 va nl n ks vs (by omega) (by omega) e1 ⟨_,by rw [hxk]; exact hc0⟩
      rw [hxk] at g
      refine g.trans (SgLe.refl _) fun k2 y hyi=>⟨fun hy=>gR hy,fun hy=>?_⟩
      rcases fR m po hy with ⟨h8,_⟩ | ⟨_,_,h8⟩
      ·exact h8
      ·exact absurd ⟨k,hk,by rw [h5]; rfl,hyi.symm⟩ h8
     ·rw [e2,bR (bL (bM _))] at h3
      have e4:=bM (bs'.getD k [])
      rw [← h3] at e4
      cases e4
    ·have hn:=hnp2 j _ h3 (.inl rfl) (.inl hj)
     refine (m.obs.objs _ _ _ _ _ _ _ _ h3).trans post.le fun k2 y hyi=>⟨fun hy=>(oM m po hy (by rw [hyi]; exact hn)).1,fun hy=>?_⟩
     rcases fR m po hy with ⟨_,h8⟩ | ⟨_,h8,_⟩
     ·rw [hyi] at h8
      exact absurd h8 hn
     ·exact h8
   ·show aH9 G' _ j i2 j2 b c k0 q
    rcases hz j _ h with ⟨k,hk,rfl,h3⟩ | ⟨hj,h3⟩
    ·exfalso
     simp only [Prod.mk.injEq,true_and] at h3
     rcases bH (flg s.hp (ids.getD k 0)) (bs'.getD k []) with ⟨f,z,n2,g,e1,e2⟩ | ⟨m2,c2,va2,nl2,n2,ks2,vs2,e1,e2⟩ | ⟨e1,e1',e2⟩
     ·rw [e2,bR rfl] at h3
      cases h3
     ·rw [e2] at h3
      cases h3
     ·rw [e2,bR (bL (bM _))] at h3
      have e4:=bM (bs'.getD k [])
      rw [← h3] at e4
      cases e4
    ·have hn:=hnp2 j _ h3 (.inr rfl) (.inr rfl)
     obtain ⟨g1,ob,g2,g3⟩:=m.obs.mits _ _ _ _ _ _ _ h3
     -- the object that is walked over
     have hi2:∀ e,bX s.hp (aY s.hp ids bs') i2=some e→(∃ m1 c' va nl n ks vs,e=(false,[.dead,.obj m1 c' va nl n ks vs])∧c≤c')∧(s.hp i2=some e∧i2 ∉ ids∨(∃ k m1 va nl n ks vs m2 va2 nl2 n2 ks2 vs2,k < ids.length∧ids.getD k 0=i2∧s.hp i2=some (false,[.dead,.obj m1 c va nl n ks vs])∧bs'.getD k []=[.dead,.obj m2 0 va2 nl2 n2 ks2 vs2])∨∀ m1 va nl n ks vs,e≠(false,[.dead,.obj m1 c va nl n ks vs])):=fun e he=>by
      rcases hz i2 _ he with ⟨k,hk,rfl,h5⟩ | ⟨h5,h6⟩
      ·obtain ⟨cs3,h6,_⟩:=hbs k hk
       obtain ⟨m1,c1,va1,nl1,n1,ks1,vs1,h7,h8⟩:=g1 _ h6
       cases h7
       have hob:bS (bs'.getD k [])=true:=by
        obtain ⟨_,_,h9⟩:=hbk k (by omega)
        obtain ⟨cs4,h10,h11,_⟩:=hbs k hk
        rw [h6] at h10
        cases h10
        rw [← vR h9,h11]
        rfl
       obtain ⟨m2,c2,va2,nl2,n2,ks2,vs2,h9⟩:=cG hob
       have hc:ctr s.hp (ids.getD k 0) (bs'.getD k [])=c1+c2:=by unfold ctr; rw [h6,h9]; rfl
       rw [hc,h9] at h5
       subst h5
       refine ⟨⟨m2,c1+c2,va2,nl2,n2,ks2,vs2,rfl,by omega⟩,?_⟩
       by_cases hc2:c1+c2=c
       ·obtain rfl:c1=c:=by omega
        obtain rfl:c2=0:=by omega
        exact .inr (.inl ⟨k,_,_,_,_,_,_,_,_,_,_,_,_,hk,rfl,h6,h9⟩)
       ·refine .inr (.inr fun m1 va nl n ks vs hh=>?_)
        simp only [eQ,nD,Prod.mk.injEq,List.cons.injEq,D.obj.injEq,true_and,and_true] at hh
        omega
      ·exact ⟨g1 e h6,.inl ⟨h6,h5⟩⟩
     refine ⟨fun e he=>(hi2 e he).1,ob,(oM m po g2 hn).1,?_⟩
     rcases g3 with g3 | ⟨g3,blk,ob',since,seen,g4,g5,g6⟩
     ·exact .inl g3
     ·refine .inr ⟨g3,?_⟩
      cases hh:bX s.hp (aY s.hp ids bs') i2 with
      | none =>
       obtain ⟨o,h5⟩:=iV m po _ _ g5
       exact ⟨blk,o,since,seen,g4,h5,fun m1 va nl n ks vs e=>by cases e⟩
      | some e =>
       obtain ⟨⟨m1,c',va,nl,n,ks,vs,rfl,hcc⟩,h5 | ⟨k,_,_,_,_,_,_,_,_,_,_,_,_,hk,hki,h5,h6⟩ | h5⟩:=hi2 e hh
       ·have hn2:=hnp2 i2 _ h5.1 (.inl rfl) (.inl h5.2)
        exact ⟨blk,ob',since,seen,g4,(oM m po g5 hn2).1,fun m1 va nl n ks vs e=>g6 m1 va nl n ks vs (by rw [h5.1]; exact e)⟩
       ·subst hki
        have hxk:(cT G s.hp w.heap.size ids).getD k 0=G.β (ids.getD k 0):=by rw [hext k hk,eL h5 rfl]
        have hcφ:eB G s.hp ids blk=some ⟨G.β (ids.getD k 0),j2+1,ob'⟩:=bQ.2 ⟨g5,k,hk,by rw [h5]; rfl,rfl⟩
        exact ⟨blk,ob',since,seen,g4,gR (po.same k _ _ _ _ _ _ (by omega) (by omega) h6 blk _ hcφ hxk.symm),fun _ _ _ _ _ _ _=>g6 _ _ _ _ _ _ h5⟩
       ·obtain ⟨o,h6⟩:=iV m po _ _ g5
        exact ⟨blk,o,since,seen,g4,h6,fun m1 va nl n ks vs e=>by cases e; exact absurd rfl (h5 _ _ _ _ _ _)⟩
   ·show orφ φ' G.φ b=some x
    have hx:x.id=G.β j:=hx
    rcases hz j _ h with ⟨k,hk,rfl,h3⟩ | ⟨hj,h3⟩
    ·simp only [Prod.mk.injEq,true_and] at h3
     rcases bH (flg s.hp (ids.getD k 0)) (bs'.getD k []) with ⟨f,z,n2,g,e1,e2⟩ | ⟨m2,c2,va2,nl2,n2,ks2,vs2,e1,e2⟩ | ⟨e1,e1',e2⟩
     ·rw [e2,bR rfl] at h3
      cases h3
     ·obtain ⟨c0,nl0,n0,ks0,vs0,h5⟩:=hobj k _ _ _ _ _ _ _ hk e1
      have hc:ctr s.hp (ids.getD k 0) (bs'.getD k [])=c0+c2:=by unfold ctr; rw [h5,e1]; rfl
      rw [hc,e2] at h3
      simp only [nD,List.cons.injEq,D.obj.injEq,true_and,and_true] at h3
      obtain rfl:c0=0:=by omega
      obtain rfl:c2=0:=by omega
      have hxk:(cT G s.hp w.heap.size ids).getD k 0=G.β (ids.getD k 0):=by rw [hext k hk,eL h5 rfl]
      have h6:=m.obs.orig _ _ _ _ _ _ _ hjn h5 b x hb0 hx
      exact gR (po.same k _ _ _ _ _ _ (by omega) (by omega) e1 b x (bQ.2 ⟨h6,k,hk,by rw [h5]; rfl,hx.symm⟩) (by rw [hxk,hx]))
     ·rw [e2,bR (bL (bM _))] at h3
      have e4:=bM (bs'.getD k [])
      rw [← h3] at e4
      cases e4
    ·have hn:=hnp2 j _ h3 (.inl rfl) (.inl hj)
     exact (oM m po (m.obs.orig _ _ _ _ _ _ _ hjn h3 b x hb0 hx) (by rw [hx]; exact hn)).1
  ·rcases hz j _ h with ⟨k,hk,rfl,h3⟩ | ⟨h2,h3⟩
   ·exfalso
    simp only [Prod.mk.injEq,true_and] at h3
    rcases bH (flg s.hp (ids.getD k 0)) (bs'.getD k []) with ⟨f,z1,n1,g1,e1,e2⟩ | ⟨_,_,_,_,_,_,_,e1,e2⟩ | ⟨e1,e1',e2⟩
    ·rw [e2,bR rfl] at h3
     cases h3
    ·rw [e2] at h3
     cases h3
    ·rw [e2,bR (bL (bM _))] at h3
     have e4:=aU (bs'.getD k []) 1
     rw [← h3] at e4
     generalize nth (bs'.getD k []) 1 D.dead=d at e4
     cases d <;> simp [nth,D.pure1] at e4
   ·exact m.mnp j x va n ks vs h3
 have tokSome:∀ j q z n g,j < rs.length→nth rs j .dead=.slice (.own q) z n g→cF s.tk (aW (aZ rs) id) (id+j)=some (z,n)∧G'.ρ (id+j)=vs.getD j undef:=by
  intro j q z n g hj hr
  refine ⟨?_,?_⟩
  ·rw [fV]
   have:jQ (aZ rs) id (id+j)=some (z,n):=by
    unfold jQ
    rw [show id+j - id=j from by omega,hU,hr]
    simp only [D.res,cQ]
    rw [if_pos (by omega)]
   rw [this]
  ·show (if id≤id+j∧id+j < id+rs.length then _ else _)=_
   rw [if_pos (by omega),show id+j - id=j from by omega]
 have rts:∀ j,j < rs.length→Rt F G' (cF s.tk (aW (aZ rs) id)) (vs.getD j undef) (nth (cJ (aZ rs) id) j .dead):=by
  intro j hj
  rw [nS,hU]
  exact aK7 (post.res j hj) rfl fun q z n g hr=>tokSome j q z n g hj hr
 refine ⟨G',rfl,rfl,rfl,keeps,mem,fun b k hk=>?_,rts⟩
 rcases hown b k hk with h | ⟨_,j,_,h1,h2,q,z,n,g,c,h3,_⟩
 ·exact .inl (m.own_lt h)
 ·exact .inr ⟨j - id,q,z,n,g,by omega,h3⟩
theorem hQ {lo hi:Nat} (k:Nat) (f:Bool) (cs:List D):names lo hi (nD k (eQ f cs))=false:=by
 rcases bH f cs with ⟨_,z,n,g,rfl,e⟩ | ⟨_,_,_,_,_,_,_,rfl,e⟩ | ⟨_,h,e⟩
 ·rfl
 ·rfl
 ·rw [e,bR (bL (bM _))]
  exact dE _
theorem wT (r:Rel F B np w0 ext σ0 G s a w) {id:Nat} (hnp:np≤id) (hcl:Clean id (id+4) s) {ids:List Nat} {bs bs':List (List D)} (hb:cL s.hp ids=some bs) (hd:dN ids=true) {σ':Sg} {rs:List D} {vs:Array Value}
  (post:CPost (eP G s.hp ids) w (cT G s.hp w.heap.size ids) w' σ' rs bs' vs) (hback:mU bs bs'=true) (h4:rs.length≤4) (dst:Option Nat) :
  ∃ G',Rel F B np w0 ext σ0 G' (s.next dst (lL (cJ (aZ rs) id)) ⟨aY s.hp ids bs',aW (aZ rs) id⟩) (a.put dst (eU vs)) w':=by
 obtain ⟨φ',po⟩:=post.objs
 obtain ⟨G',_,_,_,keeps,mem,_,rts⟩:=wJ r hnp hcl hb hd post po hback h4
 refine ⟨G',r.put hnp hcl keeps mem ?_ dst⟩
 have hsz:=post.size
 match rs,hsz,rts with
 | [d],hsz,rts =>
  have h1:=rts 0 (by simp)
  have e:cJ (aZ [d]) id=[nth (cJ (aZ [d]) id) 0 .dead]:=by
   cases hq:cJ (aZ [d]) id with
   | nil=>have:=eM (aZ [d]) id; rw [hq] at this; simp [cQ] at this
   | cons x l =>
    have:=eM (aZ [d]) id
    rw [hq] at this
    simp [cQ] at this
    subst this
    rfl
  rw [e]
  have e2:eU vs=vs.getD 0 undef:=by
   have:vs.size=1:=hsz
   simp [eU,this,Array.getD_eq_getD_getElem?]
  rw [e2]
  exact .any h1.ra
 | [],hsz,rts =>
  have e2:eU vs=.tuple vs:=by
   have:vs.size=0:=hsz
   simp [eU,this]
  rw [e2]
  exact .tup vs [] hsz fun j hj=>by simp at hj
 | d::d'::l,hsz,rts =>
  have e2:eU vs=.tuple vs:=by
   have:¬vs.size=1:=by rw [hsz]; simp
   simp [eU,this]
  have e1:lL (cJ (aZ (d::d'::l)) id)=.tup (cJ (aZ (d::d'::l)) id):=by
   have:=eM (aZ (d::d'::l)) id
   generalize cJ (aZ (d::d'::l)) id=x at this
   match x,this with
   | a::b::c,_=>rfl
  rw [e1,e2]
  exact .tup vs _ (by rw [eM,cQ]; exact hsz) fun j hj=>rts j (by rw [eM,cQ] at hj; exact hj)
theorem aB8 (hp:Nat→Option (Bool×List D)) (l m:List (Nat×Bool×List D)):bX hp (l++m)=bX (bX hp l) m:=by
 induction l generalizing hp with
 | nil=>rfl
 | cons x l ih=>obtain ⟨i,e⟩:=x; simp only [List.cons_append,bX,ih]
theorem aKM (m:Mem F B np w0 ext σ0 G hp tk w) {φ':Nat→Option Fo} (hγ:G'.γ=G.γ) (hφ:G'.φ=orφ φ' G.φ) {b:Nat} (hB:w.heap.size≤b) (h:φ' b=none):G'.γ b=none∧G'.φ b=none:=by
 refine ⟨?_,?_⟩
 ·rw [hγ]
  cases hg:G.γ b with
  | none=>rfl
  | some r2 =>
   obtain ⟨_,_,_,_,_,h5,_⟩:=m.resv b r2 hg
   have:=(Array.getElem?_eq_some_iff.1 h5).1
   omega
 ·rw [hφ,oD h]
  cases hg:G.φ b with
  | none=>rfl
  | some x =>
   obtain ⟨_,_,_,_,h5⟩:=m.frn b x hg
   have:=(Array.getElem?_eq_some_iff.1 h5).1
   omega
theorem uV (r:Rel F B np w0 ext σ0 G s a w) {id:Nat} (hnp:np≤id) (hcl:Clean id (id+4) s) {ids:List Nat} {bs bs':List (List D)} (hb:cL s.hp ids=some bs) (hd:dN ids=true) {σ':Sg} {l:List D} {vs:Array Value}
  (post:CPost (eP G s.hp ids) w (cT G s.hp w.heap.size ids) w' σ' [.newp l] bs' vs) (hback:mU bs bs'=true) (hl:aI (aM l)=true) (dst:Option Nat) :
  ∃ G',Rel F B np w0 ext σ0 G' (s.next dst (.ptr id 0) ⟨aY s.hp ids bs'++[(id,false,aM l)],[]⟩) (a.put dst (eU vs)) w':=by
 have hres:=post.res 0 (by simp)
 simp only [nth] at hres
 obtain ⟨b,c,e,hv,hB,hc,hcs,hrp,hσ⟩:=hres
 obtain ⟨φ',po⟩:=post.objs
 have po':q7 (eP G s.hp ids) w.heap.size (cT G s.hp w.heap.size ids) w' σ' [.dead] bs' vs φ' :=
  { po with
   res:=fun j b hj hr=>by
    have:j=0:=by simpa using hj
    subst this
    rcases hr with ⟨_,_,_,_,_,h,_⟩ | ⟨_,h,_⟩ | ⟨_,_,_,_,_,h,_⟩ <;> cases h }
 have post':CPost (eP G s.hp ids) w (cT G s.hp w.heap.size ids) w' σ' [.dead] bs' vs :=
  { post with
   size:=post.size
   res:=fun j hj=>by
    have:j=0:=by simpa using hj
    subst this
    exact .dead _
   own:=fun i j b hi hj _ _=>by simp at hi hj; omega
   objs:=⟨φ',po'⟩ }
 obtain ⟨G',hσ',hγ',hφ',keeps,mem,hown,_⟩:=wJ r hnp hcl hb hd post' po' hback (by simp)
 have hlow:∀ k,¬bT G' (bX s.hp (aY s.hp ids bs')) (cF s.tk (aW (aZ [.dead]) id)) b k:=fun k hk=>by
  rcases hown b k hk with h | ⟨j,q,z,n,g,h1,h2⟩
  ·omega
  ·have:j=0:=by simpa using h1
   subst this
   cases h2
 have hclean:∀ id' f cs',bX s.hp (aY s.hp ids bs') id'=some (f,cs')→id'≠id∧names id (id+1) cs'=false:=by
  intro id' f cs' h
  obtain ⟨hl',hbs⟩:=dS hb
  rcases tT ids bs' s.hp s.hp hd (by have:=(oN hback).1; omega) id' _ h with ⟨k,hk,rfl,h3⟩ | ⟨_,h3⟩
  ·obtain ⟨cs0,h5,_⟩:=hbs k hk
   have:=(hcl.hp _ _ _ h5).1
   refine ⟨by omega,?_⟩
   cases h3
   exact hQ _ _ _
  ·have:=hcl.hp _ _ _ h3
   exact ⟨by omega,cZ this.2 (Nat.le_refl _) (by omega)⟩
 have m2:=mem.addVar id b (aM l) c e hc hl (by rw [aO]; exact hcs) (fun j hj=>by
   rw [aO] at hj
   rw [aU]
   exact .pure (by rw [hσ']; exact hrp j hj) (b9 _ _)) (fun o=>by rw [hσ']; exact hσ o) hlow (.inl (Nat.le_trans r.mem.base hB))
  (by
   cases hh:bX s.hp (aY s.hp ids bs') id with
   | none=>rfl
   | some x=>exact absurd rfl (hclean id x.1 x.2 hh).1)
  (fun id' f cs' h=>(hclean id' f cs' h).2) (aKM r.mem hγ' hφ' hB (po.res 0 b (by simp) (.inr (.inl ⟨l,rfl,hv⟩))))
 refine ⟨{ G' with β:=fun j=>if j=id then b else G'.β j },?_⟩
 have kk:Keeps id (id+4) G { G' with β:=fun j=>if j=id then b else G'.β j } s.tk s.tk :=
  ⟨keeps.σ,fun j hj=>by simp only; rw [if_neg (by omega)]; exact keeps.β j hj,fun i z m hi h=>keeps.tok i z m hi h,fun i n v hi h=>keeps.row i n v hi h,keeps.obj⟩
 have hput:=r.put (d:=.ptr id 0) (v:=eU vs) hnp hcl kk m2 (by
  have e2:eU vs=vs.getD 0 undef:=by
   have:vs.size=1:=post.size
   simp [eU,this,Array.getD_eq_getD_getElem?]
  rw [e2,hv]
  have:=Rc.ptr (F:=F) (G:={ G' with β:=fun j=>if j=id then b else G'.β j }) (tk:=s.tk) id 0
  simp only [if_true] at this
  exact .any (.cell this)) dst
 unfold St.next
 rw [aB8]
 exact hput
theorem uJ (r:Rel F B np w0 ext σ0 G s a w) {id:Nat} (hnp:np≤id) (hcl:Clean id (id+4) s) {ids:List Nat} {bs bs':List (List D)} (hb:cL s.hp ids=some bs) (hd:dN ids=true) {σ':Sg} {w0r:Bool} {z n:Nat} {g:Nat→List D} {vs:Array Value}
  (post:CPost (eP G s.hp ids) w (cT G s.hp w.heap.size ids) w' σ' [.arr w0r z n g] bs' vs) (hback:mU bs bs'=true) (dst:Option Nat) :
  ∃ G',Rel F B np w0 ext σ0 G' (s.next dst (.msl id z n) ⟨aY s.hp ids bs'++[(id,false,[.dead,.arr true z n g])],[]⟩) (a.put dst (eU vs)) w':=by
 have hres:=post.res 0 (by simp)
 simp only [nth] at hres
 obtain ⟨ad,c,hv,hnc,hblk⟩:=hres
 obtain ⟨φ',po⟩:=post.objs
 have po':q7 (eP G s.hp ids) w.heap.size (cT G s.hp w.heap.size ids) w' σ' [.dead] bs' vs φ' :=
  { po with
   res:=fun j b hj hr=>by
    have:j=0:=by simpa using hj
    subst this
    rcases hr with ⟨_,_,_,_,_,h,_⟩ | ⟨_,h,_⟩ | ⟨_,_,_,_,_,h,_⟩ <;> cases h }
 have post':CPost (eP G s.hp ids) w (cT G s.hp w.heap.size ids) w' σ' [.dead] bs' vs :=
  { post with
   size:=post.size
   res:=fun j hj=>by
    have:j=0:=by simpa using hj
    subst this
    exact .dead _
   own:=fun i j b hi hj _ _=>by simp at hi hj; omega
   objs:=⟨φ',po'⟩ }
 obtain ⟨G',hσ',hγ',hφ',keeps,mem,hown,_⟩:=wJ r hnp hcl hb hd post' po' hback (by simp)
 have hlow:∀ b,w.heap.size≤b→∀ k,¬bT G' (bX s.hp (aY s.hp ids bs')) (cF s.tk (aW (aZ [.dead]) id)) b k:=fun b hB k hk=>by
  rcases hown b k hk with h | ⟨j,q,z,n,g,h1,h2⟩
  ·omega
  ·have:j=0:=by simpa using h1
   subst this
   cases h2
 have hclean:∀ id' f cs',bX s.hp (aY s.hp ids bs') id'=some (f,cs')→id'≠id∧names id (id+1) cs'=false:=by
  intro id' f cs' h
  obtain ⟨hl',hbs⟩:=dS hb
  rcases tT ids bs' s.hp s.hp hd (by have:=(oN hback).1; omega) id' _ h with ⟨k,hk,rfl,h3⟩ | ⟨_,h3⟩
  ·obtain ⟨cs0,h5,_⟩:=hbs k hk
   have:=(hcl.hp _ _ _ h5).1
   refine ⟨by omega,?_⟩
   cases h3
   exact hQ _ _ _
  ·have:=hcl.hp _ _ _ h3
   exact ⟨by omega,cZ this.2 (Nat.le_refl _) (by omega)⟩
 have m2:=mem.addRow (id:=id) (z:=z) (n:=n) (c:=c) (ad:=ad) (g:=g) hnc hnp (by
   cases hh:bX s.hp (aY s.hp ids bs') id with
   | none=>rfl
   | some x=>exact absurd rfl (hclean id x.1 x.2 hh).1) (fun hc=>by
   obtain ⟨b,h1,h2,h3,o,h4,cur,e,rfl,h5,h6⟩:=hblk hc
   refine ⟨b,cur,e,h1,h4,h5,fun o=>by rw [hσ']; exact h3 o,hlow b h2,Nat.le_trans r.mem.base h2,?_,fun i hi=>⟨(h6 i hi).1,fun j hj=>⟨((h6 i hi).2 j hj).1,by rw [hσ']; exact ((h6 i hi).2 j hj).2⟩⟩⟩
   exact aKM r.mem hγ' hφ' h2 (po.res 0 b (by simp) (.inr (.inr ⟨w0r,z,n,g,c,rfl,by rw [hv,h1],hc⟩))))
  (fun id' f cs' h=>(hclean id' f cs' h).2)
 have kk:Keeps id (id+4) G { G' with η:=fun i k=>if i=id then (if k=n then some (.slice ad n c) else none) else G'.η i k } s.tk s.tk :=
  ⟨keeps.σ,fun j hj=>keeps.β j hj,fun i z m hi h=>keeps.tok i z m hi h,fun i k v hi h=>by
   simp only
   rw [if_neg (by omega)]
   exact keeps.row i k v hi h,keeps.obj⟩
 refine ⟨{ G' with η:=fun i k=>if i=id then (if k=n then some (.slice ad n c) else none) else G'.η i k },?_⟩
 have hput:=r.put (d:=.msl id z n) (v:=eU vs) hnp hcl kk m2 (by
  have e2:eU vs=vs.getD 0 undef:=by
   have:vs.size=1:=post.size
   simp [eU,this,Array.getD_eq_getD_getElem?]
  rw [e2,hv]
  refine .msl id z n ad c (by simp) hnc (fun hn=>?_)
  obtain ⟨b,h1,_⟩:=hblk (by omega)
  exact ⟨b,h1⟩) dst
 unfold St.next
 rw [aB8]
 exact hput
end
structure p9 (P:Program) (f g:FuncId):Prop where
 enter:∀ (args:Array Value) (w:World),(callFunc f args).run P w=.ok (.enter f args) w
 calls:∃ ty,∀ (mb:Option Nat) (w:World),Calls P f #[.map mb] w fun e w'=>e=.returned (.func (.func g) #[] #[.pointer (some ⟨w.heap.size,0,none⟩)])∧w'=w.alloc (.cells #[.map mb] ty (0,0))
def aHC (w w':World) (v:Value) (l:List ByteArray):Prop :=
 (v=.slice none 0 0∧l=[])∨∃ b cap cur e,v=.slice (some ⟨b,0,none⟩) l.length cap∧w.heap.size≤b∧w'.heap[b]? = some (.cells cur e (0,0))∧l.length≤cap∧cur.size=cap∧∀ i,i < l.length→cur[i]? = some (.string (l.getD i default))
structure aE1 (w w':World):Prop where
 os:w'.os=w.os
 tape:w'.tape=w.tape
 output:w'.output=w.output
 size:w.heap.size≤w'.heap.size
 keep:∀ b,b < w.heap.size→w'.heap[b]? = w.heap[b]?
structure qT (P:Program) (f g:FuncId):Prop where
 enter:∀ (args:Array Value) (w:World),(callFunc f args).run P w=.ok (.enter f args) w
 calls:∀ (w:World) (bx n:Nat) (ks:Nat→ByteArray) (mv:Value),w.cell? ⟨bx,0,none⟩=some mv→bx < w.heap.size →
  ((mv=.map none∧n=0)∨∃ b es ck,mv=.map (some b)∧w.heap[b]? = some (.map es ck)∧RM es ck∧es.size=n∧∀ i (h:i < es.size),es[i].key=.string (ks i))→rL n ks →
  Calls P f #[.func (.func g) #[] #[.pointer (some ⟨bx,0,none⟩)]] w fun e w'=>∃ v,e=.returned v∧aE1 w w'∧aHC w w' v (gI n ks)
structure pC (P:Program) (F:Nat→FuncId) (ft:FT):Prop where
 eq:∀ f j,ag ft f=some j→F j=f
 keys:∀ f j,ag ft f=some j→1000000000≤j→j < 2000000000→p9 P f (F (gOf j))
 sorts:∀ f j,ag ft f=some j→2000000000≤j→qT P f (F (gOf j))
section
variable {P:Program} {F:Nat→FuncId} {B np:Nat} {w0 w w':World} {ext:List Nat} {σ0:Og} {G G':Gh} {s:St} {a:Act} {hp:Nat→Option (Bool×List D)} {tk:Nat→Option (Nat×Nat)}
theorem aH3 (r:Rel F B np w0 ext σ0 G s a w) {id:Nat} (hnp:np≤id) (hcl:Clean id (id+4) s) {mv:Value} {g i j:Nat} {b:Bool} (h:Rd F G s.tk mv (.oref i j b)) (ty:TypeId) (dst:Option Nat) :
  (∃ mb,mv=.map mb)∧∃ G',Rel F B np w0 ext σ0 G' (s.next dst (.kseq g i j b) Upd.none) (a.put dst (.func (.func (F g)) #[] #[.pointer (some ⟨w.heap.size,0,none⟩)])) (w.alloc (.cells #[mv] ty (0,0))):=by
 have m:=r.mem
 have hr:=h.oref_inv
 have hmb:∃ mb,mv=.map mb:=by
  rcases hr with ⟨_,rfl⟩ | ⟨_,blk,_,rfl,_⟩
  ·exact ⟨_,rfl⟩
  ·exact ⟨_,rfl⟩
 refine ⟨hmb,?_⟩
 let st:Nat→Option Value:=fun o=>if o=0 then some mv else none
 have m':=m.newBlock #[mv] ty (0,0) st fun o v hv=>by
  simp only [st] at hv
  split at hv
  ·rename_i ho
   subst ho
   cases hv
   obtain ⟨mb,rfl⟩:=hmb
   exact ⟨rfl,rfl⟩
  ·cases hv
 have k:Keeps id (id+4) G { G with σ:=aL G.σ w.heap.size st } s.tk s.tk:=⟨c8 m st,fun _ _=>rfl,fun _ z n _ e=>⟨z,n,e,Nat.le_refl _,fun _=>rfl⟩,fun _ _ _ _ e=>e,fun b x hx=>⟨x.ob,hx⟩⟩
 refine ⟨_,r.put hnp hcl k m' (.kseq g i j b w.heap.size mv ?_ ?_) dst⟩
 ·exact hr
 ·show aL G.σ w.heap.size st w.heap.size 0=some mv
  simp [aL,st]
theorem aGM (m:Mem F B np w0 ext σ0 G hp tk w) {v:Value} {l:List ByteArray} (hg:aE1 w w') (hrow:aHC w w' v l) :
  ∃ σ',CPost (eP G hp []) w (cT G hp w.heap.size []) w' σ' [.slice (.own 0) 1 l.length (fun i=>[.str (l.getD i default)])] [] #[v]:=by
 have hφ:∀ b x,(eP G hp []).φ b=some x→False:=fun b x h=>by
  obtain ⟨_,k,hk,_⟩:=bQ.1 (show eB G hp [] b=some x from h)
  exact absurd hk (Nat.not_lt_zero _)
 have po:∀ σ',q7 (eP G hp []) w.heap.size (cT G hp w.heap.size []) w' σ' [.slice (.own 0) 1 l.length (fun i=>[.str (l.getD i default)])] [] #[v] fun _=>none:=fun σ' =>
  ⟨fun b x h=>(hφ b x h).elim,fun _ _ h=>(by cases h),fun _ _ h=>(by cases h),fun _ _ h=>(by cases h),fun _ _ _ _ h=>(by cases h),fun k _ _ _ _ _ _ _ hk=>absurd hk (Nat.not_lt_zero _),fun _ _ _ _=>rfl,fun k _ _ _ _ _ _ hk=>absurd hk (Nat.not_lt_zero _)⟩
 rcases hrow with ⟨rfl,rfl⟩ | ⟨gb,cap,cur,e,rfl,hgb,hh,hle,hsz,hcur⟩
 ·refine ⟨G.σ,fun b o v hv=>?_,SgLe.refl _,fun _ _ _=>rfl,hg.os,hg.tape,hg.output,hg.size,fun b hb _ _=>hg.keep b hb,fun k _ _ _ _ hk=>absurd hk (Nat.not_lt_zero _),fun k hk=>absurd hk (Nat.not_lt_zero _),rfl,fun j hj=>?_,fun i j b hi hj _ _=>?_,_,po _⟩
  ·obtain ⟨h1,c,e,fz,h2,h3⟩:=m.stab b o v hv
   exact ⟨h1,c,e,fz,by rw [hg.keep b (Array.getElem?_eq_some_iff.1 h2).1]; exact h2,h3⟩
  ·have:j=0:=by simpa using hj
   subst this
   refine ⟨.slice none 0 0 .ro 1 _ 0 0 (fun _ _=>undef) (Nat.le_refl _) (fun h=>absurd rfl h) (fun i hi=>absurd hi (Nat.not_lt_zero _)) (fun i j hi=>absurd hi (Nat.not_lt_zero _)) (fun i j hi=>absurd hi (Nat.not_lt_zero _)),none,0,rfl,Nat.le_refl _,fun h=>absurd h (Nat.lt_irrefl _)⟩
  ·simp at hi hj
   omega
 ·let σ':Sg:=fun b o=>if b=gb then (if o < l.length then some (.string (l.getD o default)) else none) else G.σ b o
  have hne:∀ b,b < w.heap.size→b≠gb:=fun b hb e=>by omega
  have hat:∀ o,o < l.length→σ' gb o=some (.string (l.getD o default)):=fun o ho=>by simp only [σ',if_true,if_pos ho]
  refine ⟨σ',fun b o v hv=>?_,fun b o v hv=>?_,fun b o hb=>?_,hg.os,hg.tape,hg.output,hg.size,fun b hb _ _=>hg.keep b hb,fun k _ _ _ _ hk=>absurd hk (Nat.not_lt_zero _),fun k hk=>absurd hk (Nat.not_lt_zero _),rfl,fun j hj=>?_,fun i j b hi hj _ _=>?_,_,po _⟩
  ·by_cases hb:b=gb
   ·subst hb
    simp only [σ',if_true] at hv
    split at hv
    ·rename_i ho
     cases hv
     exact ⟨rfl,cur,e,_,hh,hcur o ho⟩
    ·cases hv
   ·simp only [σ',if_neg hb] at hv
    obtain ⟨h1,c,e,fz,h2,h3⟩:=m.stab b o v hv
    exact ⟨h1,c,e,fz,by rw [hg.keep b (Array.getElem?_eq_some_iff.1 h2).1]; exact h2,h3⟩
  ·have hv:G.σ b o=some v:=hv
   have:=m.lt hv
   simp only [σ',if_neg (hne b this)]
   exact hv
  ·simp only [σ',if_neg (hne b hb)]
   rfl
  ·have:j=0:=by simpa using hj
   subst this
   refine ⟨.slice _ _ cap .ro 1 _ gb 0 (fun i _=>.string (l.getD i default)) hle (fun _=>rfl) (fun _ _=>rfl) (fun i j hi hj=>?_) (fun i j hi hj=>?_),_,cap,rfl,hle,fun hlt=>⟨gb,cur,e,rfl,hh,by omega,fun o ho=>?_,hgb⟩⟩
   ·have:j=0:=by omega
    subst this
    rw [show 0+i * 1+0=i by omega]
    exact hat i hi
   ·have:j=0:=by omega
    subst this
    exact .str _
   ·simp only [σ',if_true]
    rw [if_neg (by omega)]
  ·simp at hi hj
   omega
theorem aHX (r:Rel F B np w0 ext σ0 G s a w) {id:Nat} (hnp:np≤id) (hcl:Clean id (id+4) s) {v:Value} {l:List ByteArray} (hg:aE1 w w') (hrow:aHC w w' v l) (dst:Option Nat) :
  ∃ G',Rel F B np w0 ext σ0 G' (s.next dst (.slice (.own id) 1 l.length (fun i=>[.str (l.getD i default)])) ⟨[],[(id,1,l.length)]⟩) (a.put dst v) w':=by
 obtain ⟨σ',post⟩:=aGM r.mem hg hrow
 exact wT (ids:=[]) (bs:=[]) (bs':=[]) r hnp hcl rfl rfl post rfl (by simp) dst
theorem aF6 (m:Mem F B np w0 ext σ0 G hp tk w) {g i j:Nat} {b:Bool} {v:Value} (h:Rd F G tk v (.kseq g i j b)) {mm c va:Nat} {nl:Nat→Bool} {n:Nat→Nat} {ks:Nat→Nat→ByteArray} {vs:Nat→Nat→List D}
  (ho:hp i=some (false,[.dead,.obj mm c va nl n ks vs])) (hj:jk mm j=true) :
  ∃ bx mv,v=.func (.func (F g)) #[] #[.pointer (some ⟨bx,0,none⟩)]∧w.cell? ⟨bx,0,none⟩=some mv∧bx < w.heap.size ∧
   ((mv=.map none∧(bif b then 0 else n j)=0)∨∃ blk es ck,mv=.map (some blk)∧w.heap[blk]? = some (.map es ck)∧RM es ck∧es.size=(bif b then 0 else n j)∧∀ q (hq:q < es.size),es[q].key=.string (ks j q)):=by
 obtain ⟨bx,mv,rfl,hr,hσ⟩:=h.kseq_inv
 obtain ⟨_,cs,e,fz,hh,hc⟩:=m.stab bx 0 mv hσ
 refine ⟨bx,mv,rfl,?_,(Array.getElem?_eq_some_iff.1 hh).1,?_⟩
 ·simp [World.cell?,hh,hc]
 ·rcases hr with ⟨rfl,rfl⟩ | ⟨rfl,blk,ob,rfl,hφ⟩
  ·exact .inl ⟨rfl,rfl⟩
  ·refine .inr ?_
   have hobj:=m.obs.objs _ _ _ _ _ _ _ _ ho
   rcases hobj.map hj with ⟨_,g2⟩ | ⟨_,blk',es,ck,g2,g3,g4⟩
   ·exact absurd rfl (g2 blk _ hφ rfl)
   ·have:=m.obs.uniq blk blk' _ _ hφ g2 rfl rfl
    subst this
    rw [hφ] at g2
    cases g2
    obtain ⟨_,_,_,_,h5⟩:=m.frn blk _ hφ
    exact ⟨blk,es,ck,rfl,h5,g4,g3.1,fun q hq=>(g3.2 q hq).1⟩
end
section
variable {P:Program} {F:Nat→FuncId} {B np:Nat} {w0 w w':World} {ext:List Nat} {σ0:Og} {G G':Gh} {s:St} {a:Act} {ft:FT} {hp:Nat→Option (Bool×List D)} {tk:Nat→Option (Nat×Nat)} {lo hi:Nat} {E:Env}
theorem nL:∀ {l:List D},aI (aM l)=true→aI l=true
 | [],_=>rfl
 | d::l,h=>by
  cases d <;> first | (simp only [aM,D.pure1,aI] at h; exact nL (l:=l) h) | (simp [aM,D.pure1,aI] at h; done)
theorem j5:∀ (l:List D) (j:Nat),(mI l j).length=l.length
 | [],_=>rfl
 | d::l,j=>by cases d <;> simp [mI,j5 l]
theorem Rc.pured {v:Value} {d:D} (h:Rc F G tk v d) {G1:Gh} (e:G1.σ=G.σ) (hp:∀ i o,d≠.ptr i o):Rc F G1 (fun _=>none) v d.pure:=by
 cases h with
 | pure h1 h2 =>
  have h3:Rp G1.σ v d.pure1:=e ▸ h1.pure1
  have:d.pure=d.pure1:=by cases h1 <;> rfl
  rw [this]
  exact .pure h3 (b9 _ _)
 | ptr i o=>exact absurd rfl (hp i o)
 | eptr b o l h1=>exact .eptr b o l (e ▸ h1)
 | fn f cap l h1 h2=>exact .fn f cap l h1 fun j hj=>e ▸ h2 j hj
 | mp _ _ _ _ _ _ _ _ _ _=>exact .pure (.dead _) trivial
theorem Rd.pured {v:Value} {d:D} (h:Rd F G tk v d) {G1:Gh} (e:G1.σ=G.σ) (hp:∀ i o,d≠.ptr i o):Rd F G1 (fun _=>none) v d.pure:=by
 cases h with
 | any h =>
  cases h with
  | cell h=>exact .any (.cell (h.pured e hp))
  | agg cs l h1 h2 =>
   refine .any (.agg cs (aM l) (by rw [aO]; exact h1) fun j hj=>?_)
   rw [aO] at hj
   rw [aU]
   exact .pure (e ▸ (h2 j hj).pure1) (b9 _ _)
 | tup vs l h1 h2=>exact Rd.dead _
 | mref id=>exact Rd.dead _
 | msl _ _ _ _ _ _ _ _=>exact Rd.dead _
 | rptr _ _ _ _ _ _ _ _=>exact Rd.dead _
 | oref _ _ _ _ _=>exact Rd.dead _
 | oagg _ _ _ _ _ _ _=>exact Rd.dead _
 | osl _ _ _ _ _ _ _=>exact Rd.dead _
 | kseq _ _ _ _ _ _ _ _=>exact Rd.dead _
theorem nI:∀ (l:List D) (bs:List (List D)) (k:Prop),oO l bs k↔oO l bs True∧k
 | [],_,k=>by simp [oO]
 | d::l,bs,k=>by
  have ih:=fun bs=>nI l bs k
  cases d with
  | ptr i o =>
   simp only [oO]
   cases cV (bs.headD []) with
   | true=>simp [Br]
   | false=>exact ih _
  | msl i z n =>
   simp only [oO]
   cases uT (bs.headD []) with
   | none=>simp
   | some m =>
    simp only
    rw [ih bs.tail]
    constructor
    ·rintro ⟨h1,h2,h3⟩; exact ⟨⟨h1,h2⟩,h3⟩
    ·rintro ⟨⟨h1,h2⟩,h3⟩; exact ⟨h1,h2,h3⟩
  | _=>exact ih _
theorem aD3 {b:List D} {m:Nat} (h:uT b=some m):∃ w z g,b=[.dead,.arr w z m g]:=by
 unfold uT at h
 split at h
 ·cases h
  exact ⟨_,_,_,rfl⟩
 ·cases h
theorem tL {ids:List Nat} {hs:Nat}:∀ (l:List D) (vals:List Value) (bs:List (List D)) (p:Nat),(∀ i,i < l.length→Rd F G tk (vals.getD i undef) (nth l i .dead))→oO l bs True →
  (∀ k,k < (ptrs l).length→p+k < ids.length∧ids.getD (p+k) 0=(ptrs l).getD k 0∧∃ cs,hp ((ptrs l).getD k 0)=some (false,cs)∧bs.getD k []=eQ false cs)→(ptrs l).length=bs.length→∀ i,i < l.length →
  Rd F (G0 (eP G hp ids) (cT G hp hs ids)) (fun _=>none) (vals.getD i undef) (nth (mI l p) i .dead)
 | [],_,_,_,_,_,_,_,i,hi=>by simp at hi
 | d::l,vals,bs,p,h,hlen,hids,hbl,i,hi=>by
  have h0:=h 0 (by simp)
  simp only [nth] at h0
  obtain ⟨v0,vr,hv⟩:∃ (v0:Value) (vr:List Value),∀ i,vals.getD i undef=(v0::vr).getD i undef:=by
   cases vals with
   | nil=>exact ⟨undef,[],fun i=>by cases i <;> simp⟩
   | cons x y=>exact ⟨x,y,fun _=>rfl⟩
  simp only [hv] at h h0 ⊢
  simp only [List.getD_cons_zero] at h0
  have h':∀ i,i < l.length→Rd F G tk (vr.getD i undef) (nth l i .dead):=fun i hi=>by
   have:=h (i+1) (by simpa using hi)
   simpa [nth] using this
  by_cases hp1:∃ id off,d=.ptr id off
  ·obtain ⟨id,off,rfl⟩:=hp1
   simp only [mI,ptrs] at hids hbl ⊢
   cases bs with
   | nil=>simp at hbl
   | cons b bs =>
    have hk0:=hids 0 (by simp)
    obtain ⟨e1,e2,cs,e3,e4⟩:=hk0
    simp only [Nat.add_zero,List.getD_cons_zero] at e1 e2 e3 e4
    simp only [oO,List.headD_cons,List.tail_cons] at hlen
    have hb:cV b=false:=by
     cases hb:cV b with
     | false=>rfl
     | true=>rw [hb] at hlen; exact hlen.elim
    rw [hb] at hlen
    have ha:cV cs=false:=by
     rcases bH false cs with ⟨_,_,_,_,rfl,h8⟩ | ⟨_,_,_,_,_,_,_,rfl,_⟩ | ⟨h7,_,h8⟩
     ·rw [e4,h8] at hb
      cases hb
     ·rfl
     ·exact h7
    cases i with
    | zero =>
     have:=h0.ptr_inv
     subst this
     simp only [nth,List.getD_cons_zero]
     have:(Value.pointer (some ⟨G.β id,off,none⟩))=.pointer (some ⟨(G0 (eP G hp ids) (cT G hp hs ids)).β p,off,none⟩):=by
      simp only [G0]
      rw [lG e1,e2,eL e3 ha]
     rw [this]
     exact .any (.cell (.ptr _ _))
    | succ i =>
     have:=tL (hs:=hs) l vr bs (p+1) h' hlen (fun k hk=>by
      have:=hids (k+1) (by simpa using hk)
      rw [show p+1+k=p+(k+1) from by omega]
      simpa using this) (by simpa using hbl) i (by simpa using hi)
     simpa [nth] using this
  ·by_cases hp2:∃ id z n,d=.msl id z n
   ·obtain ⟨id,z,n,rfl⟩:=hp2
    simp only [mI,ptrs] at hids hbl ⊢
    cases bs with
    | nil=>simp at hbl
    | cons b bs =>
     have hk0:=hids 0 (by simp)
     obtain ⟨e1,e2,cs,e3,e4⟩:=hk0
     simp only [Nat.add_zero,List.getD_cons_zero] at e1 e2 e3 e4
     simp only [oO,List.headD_cons,List.tail_cons] at hlen
     cases hm:uT b with
     | none=>rw [hm] at hlen; exact hlen.elim
     | some m1 =>
     rw [hm] at hlen
     obtain ⟨w1,z1,g1,hb⟩:=aD3 hm
     subst hb
     obtain ⟨hn,hlen⟩:=hlen
     subst hn
     obtain ⟨fw,g2,rfl⟩:∃ fw g2,cs=[.dead,.arr fw z1 n g2]:=by
      rcases bH false cs with ⟨fw,_,_,g2,rfl,h8⟩ | ⟨_,_,_,_,_,_,_,_,h8⟩ | ⟨_,_,h8⟩
      ·rw [h8] at e4
       cases e4
       exact ⟨fw,_,rfl⟩
      ·rw [h8] at e4
       cases e4
      ·rw [h8] at e4
       have e5:=aU cs 1
       rw [← e4] at e5
       generalize nth cs 1 D.dead=d at e5
       cases d <;> simp [nth,D.pure1] at e5
     cases i with
     | zero =>
      obtain ⟨a,c,rfl,h2,h3,h4⟩:=h0.msl_inv
      simp only [nth,List.getD_cons_zero]
      refine .msl p z n a c ?_ h3 h4
      show vD G hp ids p n=_
      rw [oH e1 (by rw [e2]; exact e3),if_pos rfl,e2]
      exact h2
     | succ i =>
      have:=tL (hs:=hs) l vr bs (p+1) h' hlen (fun k hk=>by
       have:=hids (k+1) (by simpa using hk)
       rw [show p+1+k=p+(k+1) from by omega]
       simpa using this) (by simpa using hbl) i (by simpa using hi)
      simpa [nth] using this
   ·have hp':∀ i o,d≠.ptr i o:=fun i o e=>hp1 ⟨i,o,e⟩
    have hp2':∀ i z n,d≠.msl i z n:=fun i z n e=>hp2 ⟨i,z,n,e⟩
    have e1:mI (d::l) p=d.pure::mI l p:=by cases d <;> first | rfl | exact absurd rfl (hp' _ _) | exact absurd rfl (hp2' _ _ _)
    have e2:ptrs (d::l)=ptrs l:=by cases d <;> first | rfl | exact absurd rfl (hp' _ _) | exact absurd rfl (hp2' _ _ _)
    have e3:oO (d::l) bs True=oO l bs True:=by cases d <;> first | rfl | exact absurd rfl (hp' _ _) | exact absurd rfl (hp2' _ _ _)
    rw [e1]
    rw [e2] at hids hbl
    rw [e3] at hlen
    cases i with
    | zero =>
     simp only [nth,List.getD_cons_zero]
     exact h0.pured rfl hp'
    | succ i =>
     have:=tL (hs:=hs) l vr bs p h' hlen hids hbl i (by simpa using hi)
     simpa [nth] using this
theorem aAP (d:D) (hp:∀ i o,d≠.ptr i o):d.pure.names lo hi=false:=by
 cases d with
 | agg l=>exact dE l
 | ptr i o=>exact absurd rfl (hp i o)
 | _=>rfl
theorem lI (h:Nat):∀ (l:List D) (j0 i:Nat),i < l.length→(nth (mI l j0) i .dead).names (j0+(ptrs l).length) h=false
 | [],_,i,hi=>by simp at hi
 | d::l,j0,i,hi=>by
  by_cases hp:∃ id off,d=.ptr id off
  ·obtain ⟨id,off,rfl⟩:=hp
   simp only [mI,ptrs,List.length_cons]
   cases i with
   | zero=>exact aT (by omega)
   | succ i =>
    have:=lI h l (j0+1) i (by simpa using hi)
    rw [show j0+((ptrs l).length+1)=j0+1+(ptrs l).length from by omega]
    exact this
  ·by_cases hp2:∃ id z n,d=.msl id z n
   ·obtain ⟨id,z,n,rfl⟩:=hp2
    simp only [mI,ptrs,List.length_cons]
    cases i with
    | zero=>exact aT (by omega)
    | succ i =>
     have:=lI h l (j0+1) i (by simpa using hi)
     rw [show j0+((ptrs l).length+1)=j0+1+(ptrs l).length from by omega]
     exact this
   ·have hp':∀ i o,d≠.ptr i o:=fun i o e=>hp ⟨i,o,e⟩
    have hp2':∀ i z n,d≠.msl i z n:=fun i z n e=>hp2 ⟨i,z,n,e⟩
    have e1:mI (d::l) j0=d.pure::mI l j0:=by cases d <;> first | rfl | exact absurd rfl (hp' _ _) | exact absurd rfl (hp2' _ _ _)
    have e2:ptrs (d::l)=ptrs l:=by cases d <;> first | rfl | exact absurd rfl (hp' _ _) | exact absurd rfl (hp2' _ _ _)
    rw [e1,e2]
    cases i with
    | zero=>exact aAP d hp'
    | succ i=>exact lI h l j0 i (by simpa using hi)
theorem aCC (r:Rel F B np w0 ext σ0 G s a w) {vs:List D} {vals:Array Value} (hsz:vals.size=vs.length) (hv:∀ i,i < vs.length→Rd F G s.tk (vals.getD i undef) (nth vs i .dead)) {bs:List (List D)} (hb:cL s.hp (ptrs vs)=some bs)
  (hd:dN (ptrs vs)=true) (hlen:oO vs bs True):CPre F (eP G s.hp (ptrs vs)) w (cT G s.hp w.heap.size (ptrs vs)) vals (mI vs 0) bs:=by
 have m:=r.mem
 obtain ⟨hl,hbs⟩:=dS hb
 have hget:∀ k,k < (ptrs vs).length→(cT G s.hp w.heap.size (ptrs vs)).getD k 0=gJ G s.hp w.heap.size ((ptrs vs).getD k 0) k:=fun k hk=>lG hk
 have hnφ:∀ b,G.φ b=none→eB G s.hp (ptrs vs) b=none:=fun b h=>by
  cases hh:eB G s.hp (ptrs vs) b with
  | none=>rfl
  | some x =>
   have:=(bQ.1 hh).1
   rw [h] at this
   cases this
 have ownφ:∀ b k0,bT G s.hp s.tk b k0→eB G s.hp (ptrs vs) b=none:=fun b k0 h=>hnφ b (by
  cases hh:G.φ b with
  | none=>rfl
  | some x=>exact absurd h ((m.frn b x hh).2.1 k0))
 have hφlt:∀ b x,eB G s.hp (ptrs vs) b=some x→b < w.heap.size:=fun b x hx=>(Array.getElem?_eq_some_iff.1 (m.frn b x (bQ.1 hx).1).2.2.2.2).1
 refine ⟨m.stab,by rw [j5]; exact hsz,fun j hj=>?_,fun j hj h=>?_,by rw [← hl]; exact pD,fun i j hi hj e1=>?_,fun b x hx=>?_,fun b b' x x' e1 e2=>m.obs.uniq b b' x x' (bQ.1 e1).1 (bQ.1 e2).1,fun k hk ho=>?_,fun k hk=>?_⟩
 ·rw [j5] at hj
  have:=tL (F:=F) (G:=G) (tk:=s.tk) (hp:=s.hp) (ids:=ptrs vs) (hs:=w.heap.size) vs vals.toList bs 0 (fun i hi=>by rw [← bI]; exact hv i hi) hlen (fun k hk=>by
   obtain ⟨cs,h1,h2,_⟩:=hbs k hk
   rw [Nat.zero_add]
   exact ⟨hk,rfl,cs,h1,h2⟩) hl j hj
  rw [bI]
  exact this
 ·rw [j5] at hj
  have:=lI h vs 0 j hj
  rw [Nat.zero_add,hl] at this
  exact this
 ·have hnd:=mQ hd
  rw [← hl] at hi hj
  rw [hget i hi,hget j hj] at e1
  have key:(ptrs vs).getD i 0=(ptrs vs).getD j 0→i=j:=fun h=>by
   rw [List.getD_eq_getElem?_getD,List.getD_eq_getElem?_getD] at h
   simp only [hi,hj,List.getElem?_eq_getElem,Option.getD_some] at h
   rcases Nat.lt_trichotomy i j with hij | hij | hij
   ·exact absurd h (List.pairwise_iff_getElem.1 hnd i j hi hj hij)
   ·exact hij
   ·exact absurd h.symm (List.pairwise_iff_getElem.1 hnd j i hj hi hij)
  rcases tV m hb hi with h1 | h1 | ⟨_,_,_,_,_,_,_,o1,h1,h1',h1''⟩ <;> rcases tV m hb hj with h2 | h2 | ⟨_,_,_,_,_,_,_,o2,h2,h2',h2''⟩
  ·rw [e1] at h1
   have:=m.own1 _ _ _ h1 h2
   simp only [Sum.inl.injEq] at this
   exact key this
  ·have:=m.own_lt h1
   omega
  ·rw [e1,h2'] at h1
   rw [ownφ _ _ h1] at h2''
   cases h2''
  ·have:=m.own_lt h2
   omega
  ·omega
  ·have:=hφlt _ _ h2''
   omega
  ·rw [← e1,h1'] at h2
   rw [ownφ _ _ h2] at h1''
   cases h1''
  ·have:=hφlt _ _ h1''
   omega
  ·rw [h1',h2'] at e1
   exact key (m.obs.inj _ _ _ _ h1 h2 (.inl rfl) (.inl rfl) e1)
 ·have hx':eB G s.hp (ptrs vs) b=some x:=hx
  obtain ⟨h1,k,hk,h2,h3⟩:=bQ.1 hx'
  obtain ⟨_,_,g3,_,g5⟩:=m.frn b x h1
  refine ⟨g3,g5,k,by omega,?_,?_⟩
  ·obtain ⟨cs,h4,h5,_⟩:=hbs k hk
   rw [h4] at h2
   obtain ⟨_,_,_,_,_,_,_,rfl⟩:=cG (show bS cs=true from h2)
   rw [h5]
   rfl
  ·obtain ⟨cs,h4,h5,_⟩:=hbs k hk
   rw [h4] at h2
   obtain ⟨_,_,_,_,_,_,_,rfl⟩:=cG (show bS cs=true from h2)
   rw [hget k hk,eL h4 rfl,h3]
 ·rw [← hl] at hk
  show eB G s.hp (ptrs vs) _=none
  rw [hget k hk]
  rcases tV m hb hk with h1 | h1 | ⟨_,_,_,_,_,_,_,o1,h1,h1',h1''⟩
  ·exact ownφ _ _ h1
  ·cases hh:eB G s.hp (ptrs vs) (gJ G s.hp w.heap.size ((ptrs vs).getD k 0) k) with
   | none=>rfl
   | some x =>
    have:=hφlt _ _ hh
    omega
  ·obtain ⟨cs,h4,h5,_⟩:=hbs k hk
   rw [h1] at h4
   cases h4
   rw [h5] at ho
   cases ho
 ·rw [← hl] at hk
  obtain ⟨cs,h1,h2,h3⟩:=hbs k hk
  rw [h2]
  cases ha:cV cs with
  | true =>
   obtain ⟨fw,z,n,g,rfl⟩:=dR ha
   obtain ⟨a1,c,h4,h5⟩:=m.rows _ fw z n g h1
   refine .inl ⟨z,n,g,rfl,a1,c,?_,h4.le,fun q hq=>?_,fun hc=>?_⟩
   ·show vD G s.hp (ptrs vs) k n=_
    rw [oH hk h1,if_pos rfl]
    exact h4.at_
   ·show vD G s.hp (ptrs vs) k q=none
    rw [oH hk h1,if_neg hq]
   ·obtain ⟨b,rfl⟩:=h4.blk hc
    obtain ⟨h6,o,h7,h8⟩:=h5 b rfl hc
    rw [hget k hk,sB h1 h4.at_ hc]
    exact ⟨rfl,h6,o,h7,h8⟩
  | false =>
   cases ho:bS cs with
   | true =>
    obtain ⟨mm,c,va,nl,n,ks,vs2,rfl⟩:=cG ho
    refine .inr (.inl ⟨mm,va,nl,n,ks,vs2,rfl,?_⟩)
    rw [hget k hk,eL h1 rfl]
    have hin:∀ b x,G.φ b=some x→x.id=G.β ((ptrs vs).getD k 0)→eB G s.hp (ptrs vs) b=some x:=fun b x hx hxi=>bQ.2 ⟨hx,k,hk,by rw [h1]; rfl,hxi.symm⟩
    exact (m.obs.objs _ _ _ _ _ _ _ _ h1).trans (SgLe.refl _) fun k2 y hyi=>⟨fun hy=>hin _ _ hy hyi,fun hy=>(bQ.1 hy).1⟩
   | false =>
   have hap:fH cs=false:=by simp only [fH,ha,ho,x9 h3,Bool.or_self]
   rw [u4 hap] at h3 ⊢
   have h30:aI (aM cs)=true:=by
    unfold okB at h3
    rw [kY (bM cs),bL (bM cs),Bool.or_false,Bool.or_false] at h3
    exact h3
   obtain ⟨o1,h4,hh1,h7⟩:=m.vars _ cs h1 hap
   obtain ⟨c,e,rfl,h5,h6⟩:=hh1.cells (nL h30)
   have e1:(cT G s.hp w.heap.size (ptrs vs)).getD k 0=G.β ((ptrs vs).getD k 0):=by rw [hget k hk,eL h1 ha]
   rw [e1]
   refine .inr (.inr ⟨h30,c,e,h4,by rw [aO]; exact h5,fun j hj=>?_,h7⟩)
   rw [aO] at hj
   rw [aU]
   exact ⟨(h6 j hj).pure1,(bN _).symm⟩
theorem lF:∀ {ids:List Nat} {bs:List (List D)} {x:Nat×Bool×List D},x∈aY hp ids bs→x.1∈ids∧∃ f b k,x.2.2=nD k (eQ f b)
 | [],_,_,h=>by simp [aY] at h
 | _::_,[],_,h=>by simp [aY] at h
 | i::ids,b::bs,x,h=>by
  simp only [aY,List.mem_cons] at h
  rcases h with rfl | h
  ·exact ⟨by simp,_,b,_,rfl⟩
  ·obtain ⟨h1,h2⟩:=lF h
   exact ⟨List.mem_cons_of_mem _ h1,h2⟩
theorem lQ:∀ (l:List D) (i:Nat) (x:Nat×Nat×Nat),x∈aW l i→x.1 < i+l.length
 | [],_,_,h=>by simp [aW] at h
 | d::l,i,x,h=>by
  simp only [List.length_cons]
  have other:x∈aW l (i+1)→x.1 < i+(l.length+1):=fun h=>by have:=lQ l (i+1) x h; omega
  cases d with
  | slice t z n g =>
   cases t with
   | own j =>
    simp only [aW,List.mem_cons] at h
    rcases h with rfl | h
    ·simp only; omega
    ·exact other h
   | _=>exact other h
  | _=>exact other h
theorem aF2 (d:D) {i:Nat} (h:¬(lo≤i∧i < hi)):(d.res.own i).names lo hi=false∧(d.res.own i).names1 lo hi=false:=by
 cases d with
 | slice t z n g=>cases t <;> first | exact ⟨aT h,aT h⟩ | exact ⟨rfl,rfl⟩
 | agg c=>exact ⟨dE c,rfl⟩
 | _=>exact ⟨rfl,rfl⟩
theorem uG (h:Clean lo hi s) {id:Nat} {ids:List Nat} {bs bs':List (List D)} (hb:cL s.hp ids=some bs) {rs:List D} (h4:rs.length≤4) (hid:id+4≤lo∨hi≤id) (dst:Option Nat) :
  Clean lo hi (s.next dst (lL (cJ (aZ rs) id)) ⟨aY s.hp ids bs',aW (aZ rs) id⟩):=by
 have hnth:∀ j,j < rs.length→(nth (cJ (aZ rs) id) j .dead).names lo hi=false∧(nth (cJ (aZ rs) id) j .dead).names1 lo hi=false:=fun j hj=>by
  rw [nS,hU]
  exact aF2 _ (by omega)
 have hlen:(cJ (aZ rs) id).length=rs.length:=by rw [eM,cQ]
 refine h.after ?_ (fun x hx=>?_) (fun x hx=>?_) dst
 ·generalize cJ (aZ rs) id=l at hnth hlen
  match l,hlen with
  | [],_=>rfl
  | [d],hl=>exact (hnth 0 (by rw [← hl]; simp)).1
  | d::d'::l,hl =>
   show names lo hi (d::d'::l)=false
   exact eN fun j hj=>(hnth j (by rw [← hl]; exact hj)).2
 ·obtain ⟨h1,f,c,kk,h3⟩:=lF hx
  rw [h3]
  obtain ⟨_,hbs⟩:=dS hb
  obtain ⟨k,hk,h5⟩:=List.mem_iff_getElem.1 h1
  obtain ⟨cs,h6,_⟩:=hbs k hk
  have:ids.getD k 0=x.1:=by simp [hk,h5]
  rw [this] at h6
  exact ⟨(h.hp _ _ _ h6).1,hQ kk f c⟩
 ·have h1:=gP _ _ _ hx
  have h2:=lQ _ _ _ hx
  rw [cQ] at h2
  omega
theorem m9 (h:Clean lo hi s) {id:Nat} {ids:List Nat} {bs bs':List (List D)} (hb:cL s.hp ids=some bs) {l:List D} (hid:id+4≤lo∨hi≤id) (dst:Option Nat) :
  Clean lo hi (s.next dst (.ptr id 0) ⟨aY s.hp ids bs'++[(id,false,aM l)],[]⟩):=by
 refine h.after (v:=.ptr id 0) (show (Nat.ble lo id&&Nat.blt id hi)=false from aT (by omega)) (fun x hx=>?_) (fun x hx=>by simp at hx) dst
 rcases List.mem_append.1 hx with hx | hx
 ·obtain ⟨h1,f,c,kk,h3⟩:=lF hx
  rw [h3]
  obtain ⟨_,hbs⟩:=dS hb
  obtain ⟨k,hk,h5⟩:=List.mem_iff_getElem.1 h1
  obtain ⟨cs,h6,_⟩:=hbs k hk
  have:ids.getD k 0=x.1:=by simp [hk,h5]
  rw [this] at h6
  exact ⟨(h.hp _ _ _ h6).1,hQ kk f c⟩
 ·simp only [List.mem_singleton] at hx
  subst hx
  exact ⟨by simp only; omega,dE l⟩
theorem nC (h:Clean lo hi s) {id:Nat} {ids:List Nat} {bs bs':List (List D)} (hb:cL s.hp ids=some bs) {z n:Nat} {g:Nat→List D} (hid:id+4≤lo∨hi≤id) (dst:Option Nat) :
  Clean lo hi (s.next dst (.msl id z n) ⟨aY s.hp ids bs'++[(id,false,[.dead,.arr true z n g])],[]⟩):=by
 refine h.after (v:=.msl id z n) (show (Nat.ble lo id&&Nat.blt id hi)=false from aT (by omega)) (fun x hx=>?_) (fun x hx=>by simp at hx) dst
 rcases List.mem_append.1 hx with hx | hx
 ·obtain ⟨h1,f,c,kk,h3⟩:=lF hx
  rw [h3]
  obtain ⟨_,hbs⟩:=dS hb
  obtain ⟨k,hk,h5⟩:=List.mem_iff_getElem.1 h1
  obtain ⟨cs,h6,_⟩:=hbs k hk
  have:ids.getD k 0=x.1:=by simp [hk,h5]
  rw [this] at h6
  exact ⟨(h.hp _ _ _ h6).1,hQ kk f c⟩
 ·simp only [List.mem_singleton] at hx
  subst hx
  exact ⟨by simp only; omega,rfl⟩
theorem hG {id:Nat} {ids:List Nat} {rs:List D} {bs bs':List (List D)} {v:D} {u:Upd} (h:(gZ id ids hp bs rs bs').holds v u):mU bs bs'=true ∧
  ((rs.length ≤ 4 ∧ v = lL (cJ (aZ rs) id) ∧ u = ⟨aY hp ids bs',aW (aZ rs) id⟩) ∨
   (∃ l,rs=[.newp l]∧aI (aM l)=true∧v=.ptr id 0∧u=⟨aY hp ids bs'++[(id,false,aM l)],[]⟩) ∨
   ∃ f z n g,rs=[.arr f z n g]∧v=.msl id z n∧u=⟨aY hp ids bs'++[(id,false,[.dead,.arr true z n g])],[]⟩):=by
 unfold gZ at h
 split at h
 ·rename_i l
  obtain ⟨hb,rfl,rfl⟩:=aK h
  simp only [Bool.and_eq_true] at hb
  exact ⟨hb.1,.inr (.inl ⟨l,rfl,hb.2,rfl,rfl⟩)⟩
 ·rename_i f z n g
  obtain ⟨hb,rfl,rfl⟩:=aK h
  exact ⟨hb,.inr (.inr ⟨f,z,n,g,rfl,rfl,rfl⟩)⟩
 ·obtain ⟨hb,rfl,rfl⟩:=aK h
  simp only [Bool.and_eq_true] at hb
  exact ⟨hb.2,.inl ⟨Nat.le_of_ble_eq_true hb.1.2,rfl,rfl⟩⟩
abbrev aD9 (F:Nat→FuncId) (B np:Nat) (w0:World) (ext:List Nat) (σ0:Og) (s:St) (a:Act) (dst:Option Nat) (id n:Nat) (k:D→Upd→Prop) (next:Act→World→Prop):Prop :=
 ∀ v u v' G' w',k v u→Rel F B np w0 ext σ0 G' (s.next dst v u) (a.put dst v') w'→(∀ lo hi,Clean lo hi s→(id+n≤lo∨hi≤id)→Clean lo hi (s.next dst v u))→next (a.put dst v') w'
theorem aEM {C:bA} {f:FuncId} (hC:COk P F f C) (r:Rel F B np w0 ext σ0 G s a w) {vs:List D} {vals:Array Value} (hsz:vals.size=vs.length) (hv:∀ i,i < vs.length→Rd F G s.tk (vals.getD i undef) (nth vs i .dead))
  {id:Nat} (hnp:np≤id) (hcl:Clean id (id+4) s) {k:D→Upd→Prop} (h:fK C id vs s.hp k) {o:Oper} (hop:(execOp a.eval o).run P w=(callFunc f vals).run P w) {next:Act→World→Prop} {Q:Exit→Act→World→Prop}
  (hn:aD9 F B np w0 ext σ0 s a o.dst id 4 k next):o.wp P a w next Q:=by
 unfold Oper.wp
 rw [hop]
 unfold fK at h
 cases hb:cL s.hp (ptrs vs) with
 | none=>rw [hb] at h; exact h.elim
 | some bs =>
  rw [hb] at h
  simp only at h
  cases hd:dN (ptrs vs) with
  | false=>rw [hd] at h; exact h.elim
  | true =>
   rw [hd] at h
   obtain ⟨hlen,h⟩:=(nI vs bs _).1 h
   have key:∀ (w':World) (rv:Array Value) (rs:List D) (bs':List (List D)) (σ':Sg),(gZ id (ptrs vs) s.hp bs rs bs').then k →
     CPost (eP G s.hp (ptrs vs)) w (cT G s.hp w.heap.size (ptrs vs)) w' σ' rs bs' rv→next (a.put o.dst (eU rv)) w':=by
    intro w' rv rs bs' σ' hK post
    obtain ⟨v,u,hh,hK⟩:=cK hK
    obtain ⟨hl,⟨h4,rfl,rfl⟩ | ⟨l,rfl,hls,rfl,rfl⟩ | ⟨f,z,n,g,rfl,rfl,rfl⟩⟩:=hG hh
    ·obtain ⟨G',r'⟩:=wT r hnp hcl hb hd post hl h4 o.dst
     exact hn _ _ _ G' w' hK r' fun lo hi hc hid=>uG hc hb h4 hid o.dst
    ·obtain ⟨G',r'⟩:=uV r hnp hcl hb hd post hl hls o.dst
     exact hn _ _ _ G' w' hK r' fun lo hi hc hid=>m9 hc hb hid o.dst
    ·obtain ⟨G',r'⟩:=uJ r hnp hcl hb hd post hl o.dst
     exact hn _ _ _ G' w' hK r' fun lo hi hc hid=>nC hc hb hid o.dst
   rcases hC with hC | hC
   ·rw [hC.enter,Oper.upon_enter]
    refine (hC.calls _ w _ vals _ bs _ (aCC r hsz hv hb hd hlen) h).mono fun e w' hh=>?_
    obtain ⟨rv,rs,bs',σ',rfl,hK,post⟩:=hh
    exact key w' rv rs bs' σ' hK post
   ·obtain ⟨w',rv,rs,bs',σ',hr,hK,post⟩:=hC.calls _ w _ vals _ bs _ (aCC r hsz hv hb hd hlen) h
    rw [hr,Oper.upon_value]
    exact key w' rv rs bs' σ' hK post
theorem Re.rd {v:Value} {d:D} (h:Re G.σ v d):Rd F G tk v d:=by
 cases h with
 | pure h1 h2=>rw [h2]; exact .any (.cell (.pure (h2 ▸ h1) (b9 _ _)))
 | eptr b o l h1=>exact .any (.cell (.eptr b o l h1))
theorem Rd.fn_inv {v:Value} {f:Nat} {l:List D} (h:Rd F G tk v (.fn f l)):∃ cap:Array Value,v=.func (.func (F f)) #[] cap∧cap.size=l.length∧∀ j,j < l.length→Re G.σ (cap.getD j undef) (nth l j .dead):=by
 cases h with | any h=>cases h with | cell h=>cases h with | pure h _=>cases h | fn _ cap _ h1 h2=>exact ⟨cap,rfl,h1,h2⟩
theorem gT (o:AOp) (id:Nat) (args:List D) (k:D→Upd→Prop):step E o id hp tk args k=match o with
 | .call p f=>(match agc E id f with
  | some C=>bif p then fK C id args hp k else Br (pX args) (fK C id args hp k) False
  | none=>False)
 | .callv p=>(match args with
  | .fn f cap::r=>(match ag E f with
   | some C=>bif p then fK C id (r++cap) hp k else Br (pX (r++cap)) (fK C id (r++cap) hp k) False
   | none=>False)
  | _=>False)
 | .mapNext=>(match args with
  | [.ptr i 0]=>nN i hp (hp i) k
  | _=>False)
 | o=>(aR o id hp tk args).then k:=by
 cases o <;> rfl
theorem sS (c:Call) (xs:List AX):m4 P ft np c≠some (.mapNext,xs):=fun hc2=>by
 obtain ⟨callee,args,ts⟩:=c
 unfold m4 at hc2
 split at hc2
 ·split at hc2
  ·rename_i f _ _ _ j _ _ _
   have h1:=(Prod.mk.inj (Option.some.inj hc2)).1
   have h2:=s4 (vS P (Nat.ble 1000000 np) f ts.toList) j
   rw [h1] at h2
   cases h2
  ·cases hc2
 ·rw [Option.map_eq_some_iff] at hc2
  obtain ⟨_,_,hc2⟩:=hc2
  cases hc2
 ·unfold kO at hc2
  split at hc2
  ·unfold aB7 at hc2
   split at hc2 <;> cases hc2
  ·unfold nF at hc2
   split at hc2
   ·split at hc2
    ·split at hc2 <;> cases hc2
    ·cases hc2
   ·cases hc2
  ·unfold qS at hc2
   split at hc2 <;> cases hc2
  ·rw [Option.map_eq_some_iff] at hc2
   obtain ⟨_,_,hc2⟩:=hc2
   cases hc2
  ·rw [Option.map_eq_some_iff] at hc2
   obtain ⟨_,_,hc2⟩:=hc2
   cases hc2
  ·cases hc2
 ·cases hc2
theorem t6 {op:BinOp} {p b:Bool} {l:List AX} {xs:List AX} (h:yM op p b l=some (.mapNext,xs)):False:=by
 unfold yM at h
 split at h
 ·cases b with
  | false=>cases h
  | true =>
   simp only [cond_true] at h
   split at h <;> cases h
 ·cases h
theorem aCM {op:BinOp} {b:Bool} {l:List AX} {xs:List AX} (h:vF op b l=some (.mapNext,xs)):False:=by
 unfold vF at h
 split at h
 ·cases b with
  | false=>cases h
  | true =>
   simp only [cond_true] at h
   split at h <;> cases h
 ·cases h
theorem aEB {o:Oper} {xs:List AX} (h:xT P ft np o=some (.mapNext,xs)):∃ x,o.op=.next x false∧∃ ax,trX ft x=some ax∧xs=[ax]:=by
 cases hop:o.op <;> rw [xT,hop] at h <;> simp only at h
 case next x isS =>
  rw [Option.map_eq_some_iff] at h
  obtain ⟨ax,h1,h2⟩:=h
  cases isS with
  | true=>cases h2
  | false =>
   cases h2
   exact ⟨x,rfl,ax,h1,rfl⟩
 case call c=>exact absurd h (sS c xs)
 case binOp op t x y ty =>
  exfalso
  unfold aE7 at h
  split at h
  ·split at h
   ·unfold aGP at h
    split at h
    ·split at h <;> cases h
    ·split at h <;> cases h
    ·cases h
   ·unfold aGP at h
    split at h
    ·split at h <;> cases h
    ·split at h <;> cases h
    ·cases h
   ·split at h <;> cases h
   ·cases h
   ·cases h
   ·exact t6 h
   ·exact t6 h
   ·exact aCM h
   ·cases h
  ·cases h
 case makeMap t x =>
  exfalso
  cases hf:(r6 P t&&x.isNone) with
  | true=>rw [hf] at h; cases h
  | false =>
   rw [hf] at h
   simp only [cond_false,n4] at h
   split at h <;> cases h
 case mapUpdate t x y z =>
  exfalso
  cases hf:r6 P t with
  | true =>
   rw [hf] at h
   simp only [cond_true,uA] at h
   split at h <;> cases h
  | false =>
   rw [hf] at h
   simp only [cond_false,kQ] at h
   split at h <;> cases h
 case lookup t x y c =>
  exfalso
  cases hf:r6 P t with
  | true =>
   rw [hf] at h
   simp only [cond_true,uY] at h
   split at h <;> cases h
  | false =>
   rw [hf] at h
   simp only [cond_false,qJ] at h
   split at h <;> cases h
 all_goals
  exfalso
  first
   | (cases h; done)
   | (rw [Option.map_eq_some_iff] at h; obtain ⟨_,_,h⟩:=h; cases h; done)
   | (simp only [v7,tN,tJ,iP,zT,tQ,jS,tU,j7,tW,tM,zQ,lB,jY,zM,n4,kQ,qJ] at h
      repeat' split at h
      all_goals first
       | (cases h; done)
       | (rw [Option.map_eq_some_iff] at h; obtain ⟨_,_,h⟩:=h; cases h; done))
theorem zE {g id:Nat} {args:List D} {v:D} {u:Upd} (h:(aR (.keysSort g) id hp tk args).holds v u):∃ i j b m c va nl n ks vs,args=[.kseq g i j b]∧hp i=some (false,[.dead,.obj m c va nl n ks vs])∧jk m j=true∧rL (bif b then 0 else n j) (ks j) ∧
  v=.slice (.own id) 1 (gI (bif b then 0 else n j) (ks j)).length (fun q=>[.str ((gI (bif b then 0 else n j) (ks j)).getD q default)])∧u=⟨[],[(id,1,(gI (bif b then 0 else n j) (ks j)).length)]⟩:=by
 cases args with
 | nil=>exact (aC h).elim
 | cons d l=>cases l with
  | cons d' l=>cases d <;> exact (aC h).elim
  | nil=>cases d with
   | kseq g' i j b =>
    have h:(bif Nat.beq g' g then yF id j b (hp i) else .bad).holds v u:=h
    obtain ⟨hg,hs⟩:=aQ h
    have:=Nat.eq_of_beq_eq_true hg
    subst this
    unfold yF at hs
    split at hs
    ·rename_i m c va nl n ks vs hi
     obtain ⟨hj,hs⟩:=aQ hs
     obtain ⟨h1,h2,h3⟩:=aS hs
     exact ⟨i,j,b,m,c,va,nl,n,ks,vs,rfl,hi,hj,h1,h2,h3⟩
    ·exact (aC hs).elim
   | _=>exact (aC h).elim
theorem aA0 {g id:Nat} {args:List D} {v:D} {u:Upd} (h:(aR (.mapKeys g) id hp tk args).holds v u):∃ i j b,args=[.oref i j b]∧v=.kseq g i j b∧u=Upd.none:=by
 cases args with
 | nil=>exact (aC h).elim
 | cons d l=>cases l with
  | cons d' l=>cases d <;> exact (aC h).elim
  | nil=>cases d with
   | oref i j b =>
    have h:(Out.val (.kseq g i j b)).holds v u:=h
    obtain ⟨h1,h2⟩:=aF h
    exact ⟨_,_,_,rfl,h1,h2⟩
   | _=>exact (aC h).elim
theorem aKZ (hft:pC P F ft) (r:Rel F B np w0 ext σ0 G s a w) {o:Oper} {l:Bool} {j:Nat} (hj:ag ft (F j)=some j) (hbig:Nat.ble 1000000000 j=true) {xs:List AX} {args:List Operand} {id:Nat} (hnp:np≤id) (hcl:Clean id (id+bF (gL l j)) s)
  (hok:jO (gL l j)=true) (hax:xs.all mH=true) (h1:args.length=xs.length) (h2:(evs s.fr xs).length=xs.length) (h3:∀ i,i < xs.length→Rd F G s.tk ((args.map a.eval).getD i undef) (nth (evs s.fr xs) i .dead))
  {vals:Array Value} (hvals:vals.toList=args.map a.eval) (hrun:(execOp a.eval o).run P w=(callFunc (F j) vals).run P w)
  {k:D→Upd→Prop} (h:step E (gL l j) id s.hp s.tk (evs s.fr xs) k) {next:Act→World→Prop} {Q:Exit→Act→World→Prop} (hn:aD9 F B np w0 ext σ0 s a o.dst id (bF (gL l j)) k next):o.wp P a w next Q:=by
 have one:∀ {x:D},evs s.fr xs=[x]→∃ v,vals=#[v]∧Rd F G s.tk v x:=fun {x} hx=>by
  rw [hx] at h2
  have hl:xs.length=1:=h2.symm
  have h4:=h3 0 (by omega)
  rw [hx] at h4
  have h5:(args.map a.eval).length=1:=by rw [List.length_map]; omega
  match hm:args.map a.eval,h5 with
  | [v],_ =>
   rw [hm] at h4 hvals
   exact ⟨v,by cases vals; simpa using hvals,h4⟩
 unfold Oper.wp
 rw [hrun]
 cases hb2:Nat.ble 2000000000 j with
 | true =>
  have e:gL l j=.keysSort (gOf j):=by unfold gL; rw [hbig,hb2]; rfl
  rw [e] at h hcl hn hok
  have h':(aR (.keysSort (gOf j)) id s.hp s.tk (evs s.fr xs)).then k:=h
  obtain ⟨v,u,hh,hk⟩:=cK h'
  have hcn:=fun lo hi (hc:Clean lo hi s) hid=>uH r hc hok hax (id:=id) hid hh o.dst
  obtain ⟨i,jj,b,m,c,va,nl,n,ks,vs,hargs,hi,hjk,hask,rfl,rfl⟩:=zE hh
  obtain ⟨v,rfl,hv⟩:=one hargs
  obtain ⟨bx,mv,rfl,hcell,hlt,hmv⟩:=aF6 r.mem hv hi hjk
  have sp:=hft.sorts _ j hj (Nat.le_of_ble_eq_true hb2)
  rw [sp.enter,Oper.upon_enter]
  refine (sp.calls w bx _ (ks jj) mv hcell hlt hmv hask).mono fun e w' ⟨v',he,hg,hrow⟩=>?_
  subst he
  obtain ⟨G',r'⟩:=aHX r hnp hcl hg hrow o.dst
  exact hn _ _ _ G' w' hk r' hcn
 | false =>
  have e:gL l j=.mapKeys (gOf j):=by unfold gL; rw [hbig,hb2]; rfl
  rw [e] at h hcl hn hok
  have h':(aR (.mapKeys (gOf j)) id s.hp s.tk (evs s.fr xs)).then k:=h
  obtain ⟨v,u,hh,hk⟩:=cK h'
  have hcn:=fun lo hi (hc:Clean lo hi s) hid=>uH r hc hok hax (id:=id) hid hh o.dst
  obtain ⟨i,jj,b,hargs,rfl,rfl⟩:=aA0 hh
  obtain ⟨v,rfl,hv⟩:=one hargs
  have sp:=hft.keys _ j hj (Nat.le_of_ble_eq_true hbig) (by
   rw [Bool.eq_false_iff] at hb2
   exact Nat.lt_of_not_le fun hc=>hb2 (Nat.ble_eq_true_of_le hc))
  obtain ⟨ty,hs⟩:=sp.calls
  obtain ⟨⟨mb,rfl⟩,G',r'⟩:=aH3 r hnp hcl (g:=gOf j) hv ty o.dst
  rw [sp.enter,Oper.upon_enter]
  refine (hs mb w).mono fun e w' ⟨he,hw⟩=>?_
  subst he hw
  exact hn _ _ _ G' _ hk r' hcn
theorem aKA (hE:EnvOk P F E) (hft:pC P F ft) (r:Rel F B np w0 ext σ0 G s a w) {o:Oper} {ao:AOp} {xs:List AX} (ht:aDE P ft np o=some (ao,xs)) (hok:jO ao=true) (hax:xs.all mH=true) {id:Nat} (hnp:np≤id)
  (hcl:Clean id (id+bF ao) s) {k:D→Upd→Prop} (h:step E ao id s.hp s.tk (evs s.fr xs) k) {next:Act→World→Prop} {Q:Exit→Act→World→Prop} (hn:aD9 F B np w0 ext σ0 s a o.dst id (bF ao) k next):o.wp P a w next Q:=by
 have hnoc:mS ao=false→o.wp P a w next Q:=by
  intro hnj
  have hnc:eS ao=false:=by
   unfold mS at hnj
   cases hi:eS ao with
   | false=>rfl
   | true=>rw [hi] at hnj; cases hnj
  cases hnx:jE ao with
  | true =>
   have:ao=.mapNext:=by cases ao <;> first | rfl | cases hnx
   subst this
   rcases pS ht with ⟨c,_,hc2⟩ | ⟨h1,_⟩ | ⟨h1,_⟩
   ·exact absurd hc2 (sS c xs)
   ·obtain ⟨x,hop,ax,hx,rfl⟩:=aEB h1
    rw [gT] at h
    simp only [evs] at h
    split at h
    ·rename_i i hargs
     obtain ⟨hax',_⟩:=List.cons.inj hargs
     have hrd:=a8 (a:=a) hft.eq r hx
     rw [hax'] at hrd
     obtain ⟨v,u,w',r',v',G',hk,hv,h1,h2,h3⟩:=aIY (P:=P) r hnp hcl hrd o.type h o.dst
     have:=hn v u v' G' w' hk h3 fun lo hi hc hid=>aAU r hc hv o.dst
     unfold Oper.wp
     have hrun:(execOp a.eval o).run P w=(((Instr.next (a.eval x) false o.type).run P w).andThen fun v w=>.ok (.value v) w):=by
      simp only [execOp,hop,Sem.run_bind,Sem.run_pure]
     rw [hrun,h1]
     rcases h2 with rfl | ⟨rfl,rfl⟩
     ·exact this
     ·exact this
    ·exact h.elim
   ·cases h1
  | false =>
  have h':(aR ao id s.hp s.tk (evs s.fr xs)).then k:=by
   rw [gT] at h
   cases ao <;> first | exact h | (cases hnc; done) | (cases hnx; done)
  obtain ⟨v,u,hh,hk⟩:=cK h'
  obtain ⟨w',r',v',G',h1,h2,h3⟩:=aK3 hft.eq r ht hnj hnp hcl hh o.dst
  have:=hn v u v' G' w' hk h3 fun lo hi hc hid=>uH r hc hok hax hid hh o.dst
  unfold Oper.wp
  rw [h1]
  rcases h2 with rfl | ⟨rfl,rfl⟩
  ·exact this
  ·exact this
 rcases pS ht with ⟨c,hc,hcall⟩ | ⟨_,hnc⟩ | ⟨rfl,_⟩
 ·obtain ⟨callee,args,ts⟩:=c
  unfold m4 at hcall
  split at hcall
  ·rename_i f hf
   simp only at hf
   subst hf
   split at hcall
   ·rename_i j ays hj has
    cases hcall
    obtain ⟨h1,h2,h3⟩:=rH hft.eq r has
    have:=hft.eq f j hj
    subst this
    have hrun:(execOp a.eval o).run P w=(callFunc (F j) (args.map a.eval)).run P w:=by
     simp [execOp,hc,resolve,Act.eval,Deferred.ofValue,invoke]
    have hsz:(args.map a.eval).size=(evs s.fr xs).length:=by rw [h2,← h1]; simp
    have hv:∀ i,i < (evs s.fr xs).length→Rd F G s.tk ((args.map a.eval).getD i undef) (nth (evs s.fr xs) i .dead):=fun i hi=>by
     have:=h3 i (by omega)
     rw [bI,Array.toList_map]
     exact this
    cases hbig:Nat.ble 1000000000 j with
    | true=>exact aKZ hft r hj hbig hnp hcl hok hax h1 h2 h3 (Array.toList_map ..) hrun h hn
    | false =>
    have ecall:∀ l,gL l j=.call l j:=fun l=>by unfold gL; rw [hbig]; rfl
    rw [ecall] at h hcl hn
    rw [gT] at h
    simp only at h
    cases hE':agc E id j with
    | none=>rw [hE'] at h; exact h.elim
    | some C =>
     rw [hE'] at h
     simp only at h
     have hk:fK C id (evs s.fr xs) s.hp k:=by
      cases hp:vS P (Nat.ble 1000000 np) (F j) ts.toList with
      | true=>rw [hp] at h; exact h
      | false =>
       rw [hp] at h
       simp only [cond_false] at h
       cases hnp:pX (evs s.fr xs) with
       | true=>rw [hnp] at h; exact h
       | false=>rw [hnp] at h; exact h.elim
     exact aEM (hE.get hE') r hsz hv hnp hcl hk hrun hn
   ·cases hcall
  ·rename_i t ht'
   simp only at ht'
   subst ht'
   rw [Option.map_eq_some_iff] at hcall
   obtain ⟨ays,has,hcall⟩:=hcall
   cases hcall
   obtain ⟨h1,h2,h3⟩:=aDB hft.eq r has
   rw [gT] at h
   simp only [evs] at h
   split at h
   ·rename_i f cap rest hargs
    obtain ⟨hf,hr⟩:=List.cons.inj hargs
    subst hr
    have hfn:=a8 (a:=a) (ft:=ft) hft.eq r (x:=.tmp t) (ax:=.t t) rfl
    rw [hf] at hfn
    obtain ⟨cv,e1,e2,e3⟩:=hfn.fn_inv
    have hrun:(execOp a.eval o).run P w=(callFunc (F f) (args.map a.eval++cv)).run P w:=by
     simp [execOp,hc,resolve,e1,Deferred.ofValue,invoke]
    have hsz0:(args.map a.eval).size=(evs s.fr ays).length:=by rw [h2,← h1]; simp
    have hsz:(args.map a.eval++cv).size=(evs s.fr ays++cap).length:=by
     rw [Array.size_append,List.length_append,hsz0,e2]
    have hv:∀ i,i < (evs s.fr ays++cap).length→Rd F G s.tk ((args.map a.eval++cv).getD i undef) (nth (evs s.fr ays++cap) i .dead):=fun i hi=>by
     rw [i4]
     rw [List.length_append] at hi
     split
     ·rename_i hlt
      have:=h3 i (by omega)
      have e4:(args.map a.eval++cv).getD i undef=(args.map a.eval).getD i undef:=by
       simp only [Array.getD_eq_getD_getElem?]
       rw [Array.getElem?_append_left (by omega)]
      rw [e4,bI,Array.toList_map]
      exact this
     ·rename_i hge
      have e4:(args.map a.eval++cv).getD i undef=cv.getD (i - (evs s.fr ays).length) undef:=by
       simp only [Array.getD_eq_getD_getElem?]
       rw [Array.getElem?_append_right (by omega),hsz0]
      rw [e4]
      exact (e3 _ (by omega)).rd
    cases hE':ag E f with
    | none=>rw [hE'] at h; exact h.elim
    | some C =>
     rw [hE'] at h
     simp only at h
     have hk:fK C id (evs s.fr ays++cap) s.hp k:=by
      cases hp:aAH P (Nat.ble 1000000 np) ts.toList with
      | true=>rw [hp] at h; exact h
      | false =>
       rw [hp] at h
       simp only [cond_false] at h
       cases hnp:pX (evs s.fr ays++cap) with
       | true=>rw [hnp] at h; exact h
       | false=>rw [hnp] at h; exact h.elim
     exact aEM (hE.2 f C hE') r hsz hv hnp hcl hk hrun hn
   ·exact h.elim
  ·rename_i b hb
   refine hnoc ?_
   unfold kO at hcall
   split at hcall
   ·unfold aB7 at hcall
    split at hcall <;> first | (cases hcall; rfl) | cases hcall
   ·unfold nF at hcall
    split at hcall
    ·split at hcall
     ·split at hcall
      ·cases hcall; rfl
      ·cases hcall
     ·cases hcall
    ·cases hcall
   ·unfold qS at hcall
    split at hcall <;> first | (cases hcall; rfl) | cases hcall
   ·rw [Option.map_eq_some_iff] at hcall
    obtain ⟨_,_,hcall⟩:=hcall
    cases hcall
    rfl
   ·rw [Option.map_eq_some_iff] at hcall
    obtain ⟨_,_,hcall⟩:=hcall
    cases hcall
    rfl
   ·cases hcall
  ·cases hcall
 ·exact hnoc hnc
 ·exact hnoc rfl
end
def FlatS:D→Prop
 | .agg l=>∀ e∈l,Cell e
 | .tup l=>∀ e∈l,match e with
  | .agg c=>∀ x∈c,Cell x∧x=x.pure1
  | .tup _=>False
  | _=>True
 | _=>True
structure Tidy (lo hi:Nat) (s:St):Prop where
 fr:∀ d∈s.fr,d.names lo hi=false∧FlatS d
 hp:∀ i f cs,s.hp i=some (f,cs)→¬(lo≤i∧i < hi)∧names lo hi cs=false∧∀ e∈cs,Cell e
 tk:∀ i e,s.tk i=some e→¬(lo≤i∧i < hi)
section
variable {P:Program} {F:Nat→FuncId} {B np:Nat} {w0 w w':World} {ext:List Nat} {σ0:Og} {G G':Gh} {s:St} {a:Act} {ft:FT} {hp:Nat→Option (Bool×List D)} {tk:Nat→Option (Nat×Nat)} {lo hi id:Nat} {E:Env}
theorem FlatS.flatD {d:D} (h:FlatS d):xV lo hi d:=by
 cases d with
 | agg l=>exact h
 | tup l =>
  intro e he
  have:=h e he
  cases e with
  | agg c=>exact aX.2 fun x hx=>by rw [(this x hx).2]; exact cX _
  | tup c=>exact this
  | _=>trivial
 | _=>trivial
theorem Cell.flat {d:D} (h:Cell d):FlatS d:=by cases d <;> first | trivial | exact h.elim
theorem Rd.flatS {v:Value} {d:D} (h:Rd F G tk v d):FlatS d:=by
 cases h with
 | any h =>
  cases h with
  | cell h=>exact h.cell.flat
  | agg cs l h1 h2 =>
   intro e he
   obtain ⟨j,hj,rfl⟩:=List.mem_iff_getElem.1 he
   have:=(h2 j hj).cell
   rw [dK l _ hj] at this
   exact this
 | tup vs l h1 h2 =>
  intro e he
  obtain ⟨j,hj,rfl⟩:=List.mem_iff_getElem.1 he
  have:=h2 j hj
  rw [dK l _ hj] at this
  generalize l[j]=e at this
  generalize vs.getD j undef=v at this
  cases this with
  | cell h =>
   have:=h.cell
   cases e <;> first | trivial | exact this.elim
  | agg cs c h3 h4 =>
   intro x hx
   obtain ⟨q,hq,rfl⟩:=List.mem_iff_getElem.1 hx
   have:=h4 q hq
   rw [dK c _ hq] at this
   exact ⟨this.1.cell,this.2⟩
 | mref id=>trivial
 | msl _ _ _ _ _ _ _ _=>trivial
 | rptr _ _ _ _ _ _ _ _=>trivial
 | oref _ _ _ _=>trivial
 | oagg _ _ _ _ _ _=>trivial
 | osl _ _ _ _ _ _ _=>trivial
 | kseq _ _ _ _ _ _ _ _=>trivial
theorem Rel.tidy (r:Rel F B np w0 ext σ0 G s a w) (h:Clean lo hi s):Tidy lo hi s:=by
 refine ⟨fun d hd=>?_,aIW r h,h.tk⟩
 obtain ⟨j,hj,rfl⟩:=List.mem_iff_getElem.1 hd
 have h1:=h.fr j hj
 have h2:=(r.slots j hj).flatS
 rw [dK s.fr _ hj] at h1 h2
 exact ⟨h1,h2⟩
theorem Tidy.clean (h:Tidy lo hi s):Clean lo hi s :=
 ⟨fun i hi'=>by rw [dK s.fr _ hi']; exact (h.fr _ (List.getElem_mem hi')).1,fun i f cs hx=>⟨(h.hp i f cs hx).1,(h.hp i f cs hx).2.1⟩,h.tk⟩
theorem lW {dst:Option Nat} {v:D} {fr:List D} {d:D} (h:d∈fI dst v fr):d=v∨d∈fr:=by
 cases dst with
 | none=>exact .inr h
 | some i=>exact zS h
theorem Tidy.after (h:Tidy lo hi s) {v:D} {u:Upd} (hv:v.names lo hi=false∧FlatS v) (hh:∀ x∈u.h,¬(lo≤x.1∧x.1 < hi)∧names lo hi x.2.2=false∧∀ e∈x.2.2,Cell e) (ht:∀ x∈u.t,¬(lo≤x.1∧x.1 < hi)) (dst:Option Nat) :
  Tidy lo hi (s.next dst v u):=by
 refine ⟨fun d hd=>?_,fun i f cs hx=>?_,fun i e hx=>?_⟩
 ·rcases lW hd with rfl | hd
  ·exact hv
  ·exact h.fr d hd
 ·rcases kV hx with h1 | h1
  ·exact h.hp i f cs h1
  ·exact hh _ h1
 ·rcases vO hx with h1 | h1
  ·exact h.tk i e h1
  ·exact ht _ h1
theorem uE (h:Tidy lo hi s) {xs:List AX} (hx:xs.all mH=true):∀ d∈evs s.fr xs,d.names lo hi=false∧FlatS d:=by
 intro d hd
 obtain ⟨x,hx',rfl⟩:=zV hd
 have hx:=List.all_eq_true.1 hx x hx'
 cases x with
 | t i =>
  simp only [AX.ev]
  rcases rB (l:=s.fr) (j:=i) with h1 | h1
  ·exact h.fr _ h1
  ·rw [h1]; exact ⟨rfl,trivial⟩
 | c d =>
  refine ⟨(pJ (lo:=lo) (hi:=hi) hx).1,?_⟩
  have h1:=(pJ (lo:=lo) (hi:=hi) hx).2
  cases d with
  | agg l=>exact h1
  | tup l=>cases hx
  | _=>trivial
theorem eO (l:List D):∀ e∈aM l,Cell e:=by
 intro e he
 obtain ⟨x,_,rfl⟩:=f0 he
 exact c5 x
theorem aG7 {d:D} (h:Cell d):Cell d.ro1:=by
 cases d with
 | slice t z n g=>cases t <;> trivial
 | _=>first | trivial | exact h.elim
theorem aI7 {l:List D} (h:∀ e∈l,Cell e):∀ e∈ros l,Cell e:=by
 intro e he
 obtain ⟨x,hx,rfl⟩:=aE0 he
 exact aG7 (h x hx)
theorem fL {g:Bool} {n:Nat} {l:List D} {v:D} {u:Upd} (h:(cC g n l).holds v u) (h2:∀ e∈l,Cell e):FlatS v:=by
 unfold cC at h
 cases hb:Nat.ble n l.length with
 | false=>rw [hb] at h; exact (aC h).elim
 | true =>
  rw [hb] at h
  obtain ⟨rfl,rfl⟩:=aF h
  cases g with
  | true=>exact fun e he=>h2 e (List.mem_of_mem_take he)
  | false =>
   simp only [mkv,cond_false]
   rcases rB (l:=l.take n) (j:=0) with h4 | h4
   ·exact (h2 _ (List.mem_of_mem_take h4)).flat
   ·rw [h4]; trivial
theorem yD:∀ {qs:List (Nat×Nat)} {xs cells l:List D},fill cells qs xs=some l→(∀ e∈cells,Cell e)→∀ e∈l,Cell e
 | [],[],cells,l,h,hc=>by cases h; exact hc
 | [],_::_,_,_,h,_=>by simp [fill] at h
 | _::_,[],_,_,h,_=>by simp [fill] at h
 | (off,size)::qs,x::xs,cells,l,h,hc=>by
  simp only [fill] at h
  cases hb:(aI x.cells&&Nat.beq x.cells.length size&&Nat.ble (off+size) cells.length) with
  | false=>rw [hb] at h; cases h
  | true =>
   rw [hb] at h
   simp only [Bool.and_eq_true] at hb
   refine yD h fun e he=>?_
   rcases lE he with he | he
   ·exact hc e he
   ·exact gQ hb.1.1 e he
theorem tX {d:D} (h:uB d=true):Cell d:=by cases d <;> first | trivial | cases h
theorem mY:∀ (l:List D) (ds:List D) (u:List (Nat×Bool×List D)),freeze np hp l=some (ds,u)→∀ x∈u,∀ e∈x.2.2,Cell e
 | [],ds,u,h,x,hx=>by simp only [freeze,Option.some.injEq,Prod.mk.injEq] at h; rw [← h.2] at hx; simp at hx
 | d::l,ds,u,h,x,hx=>by
  have other:(match freeze np hp l with | some (ds,u)=>bif aI [d] then some (d.pure::ds,u) else none | none=>none)=some (ds,u)→∀ e∈x.2.2,Cell e:=by
   intro h
   cases hf:freeze np hp l with
   | none=>simp [hf] at h
   | some p =>
    obtain ⟨ds',u'⟩:=p
    simp only [hf] at h
    cases hs:aI [d] with
    | false=>rw [hs] at h; cases h
    | true =>
     rw [hs] at h
     cases h
     exact mY l _ _ hf x hx
  cases d with
  | ptr i off =>
   simp only [freeze] at h
   cases hi':hp i with
   | none=>simp [hi'] at h
   | some e =>
    obtain ⟨f,cs⟩:=e
    cases hf:freeze np hp l with
    | none=>simp [hi',hf] at h
    | some p =>
     obtain ⟨ds',u'⟩:=p
     simp only [hi',hf] at h
     cases hb:((f || aI cs)&&Nat.ble np i) with
     | false=>rw [hb] at h; cases h
     | true =>
      rw [hb] at h
      cases h
      simp only [List.mem_cons] at hx
      rcases hx with rfl | hx
      ·exact eO _
      ·exact mY l _ _ hf x hx
  | fn f c=>simp [freeze] at h
  | _=>exact other h
theorem aJB {op:BinOp} {x y v:D} {u:Upd} (h:(bin op x y).holds v u):Cell v:=by
 unfold bin at h
 split at h
 ·rename_i k a k' b
  cases hs:nV op with
  | true =>
   rw [hs] at h
   simp only [cond_true] at h
   unfold vM at h
   split at h
   ·obtain ⟨_,rfl,rfl⟩:=aK h; trivial
   ·obtain ⟨_,rfl,rfl⟩:=aK h; trivial
   ·exact (aC h).elim
  | false =>
   rw [hs] at h
   simp only [cond_false] at h
   cases hk:kD k k' with
   | false=>rw [hk] at h; exact (aC h).elim
   | true =>
    rw [hk] at h
    simp only [cond_true] at h
    unfold zL at h
    split at h
    all_goals first
     | exact (aC h).elim
     | (obtain ⟨rfl,rfl⟩:=aF h; trivial)
     | (obtain ⟨_,rfl,rfl⟩:=aK h; trivial)
 ·unfold zY at h
  split at h
  all_goals first
   | exact (aC h).elim
   | (obtain ⟨rfl,rfl⟩:=aF h; trivial)
   | (obtain ⟨_,rfl,rfl⟩:=aK h; trivial)
 ·exact (aC h).elim
theorem sN {sz bytes:Nat} {t:Tag} {z n:Nat} {g:Nat→List D} {m:Nat} {k:Nat→List D} {v:D} {u:Upd} (h:(dF id sz bytes tk t z n g m k).holds v u):Cell v∧u.h=[]:=by
 unfold dF at h
 cases hb:Nat.beq z sz with
 | false=>rw [hb] at h; exact (aC h).elim
 | true =>
  rw [hb] at h
  simp only [Bool.not_true,cond_false] at h
  split at h
  ·split at h
   ·rename_i z' n' hi'
    cases hb2:Nat.beq z' sz with
    | false=>rw [hb2] at h; exact (aC h).elim
    | true =>
     rw [hb2] at h
     obtain ⟨_,rfl,rfl⟩:=aS h
     exact ⟨trivial,rfl⟩
   ·exact (aC h).elim
  ·obtain ⟨_,rfl,rfl⟩:=aS h
   exact ⟨trivial,rfl⟩
  ·exact (aC h).elim
theorem n9 {va:Bool} {l:List D}:match mkv va (aM l) with
  | .agg c=>∀ x∈c,Cell x∧x=x.pure1
  | .tup _=>False
  | _=>True:=by
 cases va with
 | true =>
  intro x hx
  obtain ⟨e,_,rfl⟩:=f0 hx
  exact ⟨c5 e,(bN e).symm⟩
 | false =>
  have:mkv false (aM l)=(nth l 0 .dead).pure1:=by
   simp only [mkv,cond_false]
   rw [aU]
  rw [this]
  have:=c5 (nth l 0 .dead)
  generalize (nth l 0 D.dead).pure1=d at this
  cases d <;> first | trivial | exact this.elim
theorem aHD {va:Bool} {l:List D}:FlatS (mkv va (aM l)):=by
 have:=n9 (va:=va) (l:=l)
 generalize mkv va (aM l)=d at this
 cases d with
 | agg c=>exact fun e he=>(this e he).1
 | tup c=>exact this.elim
 | _=>trivial
theorem sJ {comma va ok:Bool} {l:List D}:FlatS (gU comma va ok l):=by
 cases comma with
 | false=>exact aHD
 | true =>
  intro e he
  simp only [List.mem_cons,List.not_mem_nil,or_false] at he
  rcases he with rfl | rfl
  ·exact n9
  ·trivial
theorem qK {g:Bool} {n i off:Nat} {e:Bool×List D} {v:D} {u:Upd} (h:(nT g n i off e).holds v u):FlatS v∧u=Upd.none:=by
 unfold nT at h
 split at h
 ·obtain ⟨_,rfl,rfl⟩:=aK h
  cases g <;> exact ⟨trivial,rfl⟩
 ·exact (aC h).elim
theorem qQ {i:Nat} {f:Bool} {a b:D} (ha:Cell a) (hb:Cell b):∀ x∈(⟨[(i,f,[a,b])],[]⟩:Upd).h,∀ e∈x.2.2,Cell e:=fun x hx e he=>by
 simp only [List.mem_singleton] at hx
 subst hx
 simp only [List.mem_cons,List.not_mem_nil,or_false] at he
 rcases he with rfl | rfl
 ·exact ha
 ·exact hb
theorem w8 {n i off:Nat} {e:Bool×List D} {x v:D} {u:Upd} (h:(kM hp n i off e x).holds v u):FlatS v∧∀ x∈u.h,∀ e∈x.2.2,Cell e:=by
 unfold kM at h
 split at h
 ·obtain ⟨_,h⟩:=aQ h
  unfold objSet at h
  split at h
  ·obtain ⟨_,rfl,rfl⟩:=aK h
   refine ⟨trivial,fun y hy e he=>?_⟩
   simp only [List.mem_cons,List.not_mem_nil,or_false] at hy
   rcases hy with rfl | rfl
   ·simp only [List.mem_cons,List.not_mem_nil,or_false] at he
    rcases he with rfl | rfl <;> trivial
   ·simp at he
  ·exact (aC h).elim
 ·exact (aC h).elim
theorem aGY {o:AOp} {args:List D} {v:D} {u:Upd} (h:(jN o id hp args).holds v u):FlatS v∧∀ x∈u.h,∀ e∈x.2.2,Cell e:=by
 have none':∀ x∈Upd.none.h,∀ e∈x.2.2,Cell e:=fun x hx=>by simp [Upd.none] at hx
 unfold jN at h
 split at h
 ·unfold aHT at h
  split at h
  ·obtain ⟨_,h⟩:=aQ h
   obtain ⟨rfl,rfl⟩:=aF h
   exact ⟨trivial,none'⟩
  ·exact (aC h).elim
 ·unfold aID at h
  split at h
  ·obtain ⟨_,h⟩:=aQ h
   obtain ⟨_,rfl,rfl⟩:=aK h
   exact ⟨trivial,qQ trivial trivial⟩
  ·exact (aC h).elim
 ·rename_i i j b kx ky q
  unfold qO at h
  split at h
  ·rename_i mm c va nl n ks vs va' ks' vs' hi hq
   cases hc:(jk mm j || Nat.beq q i) with
   | true=>rw [hc] at h; exact (aC h).elim
   | false =>
    rw [hc] at h
    obtain ⟨_,rfl,rfl⟩:=aK h
    refine ⟨trivial,fun y hy e he=>?_⟩
    simp only [List.mem_cons,List.not_mem_nil,or_false] at hy
    rcases hy with rfl | rfl
    ·simp only [List.mem_cons,List.not_mem_nil,or_false] at he
     rcases he with rfl | rfl <;> trivial
    ·simp at he
  ·exact (aC h).elim
 ·unfold aHO at h
  split at h
  ·obtain ⟨_,h⟩:=aQ h
   rcases bV h with ⟨_,rfl,rfl⟩ | ⟨_,rfl,rfl⟩
   ·exact ⟨sJ,none'⟩
   ·exact ⟨sJ,none'⟩
  ·exact (aC h).elim
 ·rename_i i j b kx ky
  unfold qC at h
  split at h
  ·rename_i mm c va nl n ks vs hi
   cases hc:jk mm j with
   | true=>rw [hc] at h; exact (aC h).elim
   | false =>
    rw [hc] at h
    obtain ⟨rfl,rfl⟩:=aF h
    exact ⟨trivial,none'⟩
  ·exact (aC h).elim
 ·unfold aIG at h
  split at h
  ·obtain ⟨_,h⟩:=aQ h
   obtain ⟨rfl,rfl⟩:=aV h
   exact ⟨fun e he=>by simp at he,qQ trivial trivial⟩
  ·exact (aC h).elim
 ·unfold aA2 at h
  split at h
  ·obtain ⟨_,h⟩:=aQ h
   obtain ⟨rfl,rfl⟩:=aV h
   exact ⟨trivial,qQ trivial trivial⟩
  ·exact (aC h).elim
 ·unfold vI at h
  split at h
  ·split at h
   ·obtain ⟨_,rfl,rfl⟩:=aS h
    refine ⟨fun e he=>?_,none'⟩
    simp only [List.mem_cons,List.not_mem_nil,or_false] at he
    rcases he with rfl | rfl
    ·trivial
    ·exact n9
   ·exact (aC h).elim
  ·exact (aC h).elim
 ·obtain ⟨rfl,rfl⟩:=aF h
  exact ⟨trivial,none'⟩
 ·obtain ⟨rfl,rfl⟩:=aF h
  exact ⟨trivial,none'⟩
 ·obtain ⟨rfl,rfl⟩:=aF h
  exact ⟨trivial,none'⟩
 ·rename_i g z len k off m nl kd i
  have h:(bif !(!(g || !(Nat.beq z 1))) then Out.bad else Out.chk (decide (0≤i)&&decide (i < len)&&Nat.ble len m) (.oref k (off+i.toNat) (nl (off+i.toNat))) Upd.none).holds v u:=by rw [Bool.not_not]; exact h
  obtain ⟨_,h⟩:=c6 h
  obtain ⟨_,rfl,rfl⟩:=aK h
  exact ⟨trivial,none'⟩
 ·split at h
  ·split at h
   ·split at h
    ·obtain ⟨_,rfl,rfl⟩:=aK h
     exact ⟨trivial,none'⟩
    ·exact (aC h).elim
   ·exact (aC h).elim
  ·exact (aC h).elim
 ·obtain ⟨rfl,rfl⟩:=aF h
  exact ⟨trivial,none'⟩
 ·obtain ⟨_,h⟩:=aQ h
  obtain ⟨_,rfl,rfl⟩:=aK h
  exact ⟨trivial,none'⟩
 ·obtain ⟨rfl,rfl⟩:=aF h
  exact ⟨trivial,none'⟩
 ·exact (aC h).elim
theorem aHV {o:AOp} {args:List D} {v:D} {u:Upd} (h:(aR o id hp tk args).holds v u) (ho:jO o=true) (ha:∀ d∈args,FlatS d) (hh:∀ i f cs,hp i=some (f,cs)→∀ e∈cs,Cell e):FlatS v∧∀ x∈u.h,∀ e∈x.2.2,Cell e:=by
 have none':∀ x∈Upd.none.h,∀ e∈x.2.2,Cell e:=fun x hx=>by simp [Upd.none] at hx
 unfold aR at h
 split at h
 ·obtain ⟨rfl,rfl⟩:=aF h; exact ⟨ha _ (by simp),none'⟩
 ·rename_i c x y
  obtain ⟨rfl,rfl⟩:=aF h
  refine ⟨?_,none'⟩
  cases c
  ·exact ha y (by simp)
  ·exact ha x (by simp)
 ·rename_i cells
  cases hs:aI cells with
  | false=>rw [hs] at h; exact (aC h).elim
  | true =>
   rw [hs] at h
   obtain ⟨rfl,rfl⟩:=aV h
   refine ⟨trivial,fun x hx=>?_⟩
   simp only [List.mem_singleton] at hx
   subst hx
   intro e he
   obtain ⟨j,hj,rfl⟩:=List.mem_iff_getElem.1 he
   have h1:=nS cells (id+1) j
   rw [dK _ _ hj] at h1
   rw [h1]
   rw [eM] at hj
   have h2:=gQ hs _ (List.getElem_mem hj)
   rw [dK cells _ hj]
   generalize cells[j]=d at h2
   cases d with
   | slice t z n g=>cases t <;> trivial
   | _=>first | trivial | exact h2.elim
 ·rename_i x
  cases hs:aI x.cells with
  | false=>rw [hs] at h; exact (aC h).elim
  | true =>
   rw [hs] at h
   obtain ⟨rfl,rfl⟩:=aV h
   refine ⟨trivial,fun y hy=>?_⟩
   simp only [List.mem_singleton] at hy
   subst hy
   exact gQ hs
 ·split at h
  ·rename_i f cs hi'
   cases hfs:(f || aI cs) with
   | false =>
    rw [hfs] at h
    obtain ⟨h1,rfl⟩:=qK h
    exact ⟨h1,none'⟩
   | true =>
   rw [hfs] at h
   simp only [cond_true] at h
   have h1:=fL h (fun e he=>hh _ _ _ hi' e (List.mem_of_mem_drop he))
   obtain ⟨_,rfl⟩:=cH (lo:=0) (hi:=0) h (aX.2 fun d _=>bO d) (fun e he=>hh _ _ _ hi' e (List.mem_of_mem_drop he))
   exact ⟨h1,none'⟩
  ·exact (aC h).elim
 ·have h1:=fL h (eO _)
  obtain ⟨_,rfl⟩:=cH (lo:=0) (hi:=0) h (aX.2 fun d _=>bO d) (eO _)
  exact ⟨h1,none'⟩
 ·rename_i n i off x
  split at h
  ·rename_i cs hi'
   cases hsol:aI cs with
   | false =>
    rw [hsol] at h
    exact w8 h
   | true =>
   rw [hsol] at h
   simp only [Bool.not_true,cond_false] at h
   cases hb:(aI x.cells&&Nat.beq x.cells.length n&&Nat.ble (off+n) cs.length) with
   | false=>rw [hb] at h; exact (aC h).elim
   | true =>
    rw [hb] at h
    obtain ⟨rfl,rfl⟩:=aV h
    simp only [Bool.and_eq_true] at hb
    refine ⟨trivial,fun y hy=>?_⟩
    simp only [List.mem_singleton] at hy
    subst hy
    intro e he
    rcases lE he with he | he
    ·exact hh _ _ _ hi' e he
    ·exact gQ hb.1.1 e he
  ·exact (aC h).elim
 ·obtain ⟨rfl,rfl⟩:=aF h; exact ⟨trivial,none'⟩
 ·obtain ⟨rfl,rfl⟩:=aF h; exact ⟨trivial,none'⟩
 ·rename_i g off n l
  have h0:∀ e∈l.drop off,Cell e:=fun e he=>ha (.agg l) (by simp) e (List.mem_of_mem_drop he)
  have h1:=fL h h0
  obtain ⟨_,rfl⟩:=cH (lo:=0) (hi:=0) h (aX.2 fun d _=>bO d) h0
  exact ⟨h1,none'⟩
 ·rename_i sz t z n g k i
  cases hb:Nat.beq z sz with
  | false=>rw [hb] at h; exact (aC h).elim
  | true =>
   rw [hb] at h
   obtain ⟨_,rfl,rfl⟩:=aK h
   exact ⟨trivial,none'⟩
 ·obtain ⟨_,rfl,rfl⟩:=aK h; exact ⟨trivial,none'⟩
 ·obtain ⟨_,rfl,rfl⟩:=aK h; exact ⟨trivial,none'⟩
 ·obtain ⟨_,rfl,rfl⟩:=aK h; exact ⟨trivial,none'⟩
 ·rename_i g sz len l k i
  have h0:∀ e∈l.drop (i.toNat * sz),Cell e:=fun e he=>ha (.agg l) (by simp) e (List.mem_of_mem_drop he)
  cases hl:cC g sz (l.drop (i.toNat * sz)) with
  | ok v' u' =>
   rw [hl] at h
   obtain ⟨_,rfl,rfl⟩:=aK h
   have hl':(cC g sz (l.drop (i.toNat * sz))).holds v u:=.inl hl
   have h1:=fL hl' h0
   obtain ⟨_,rfl⟩:=cH (lo:=0) (hi:=0) hl' (aX.2 fun d _=>bO d) h0
   exact ⟨h1,none'⟩
  | bad=>rw [hl] at h; exact (aC h).elim
  | ask p v' u'=>rw [hl] at h; exact (aC h).elim
  | chk p v' u'=>rw [hl] at h; exact (aC h).elim
  | alt p v' u' v2 u2=>rw [hl] at h; exact (aC h).elim
 ·rename_i zero parts
  cases hf:fill zero parts args with
  | none=>rw [hf] at h; exact (aC h).elim
  | some l =>
   rw [hf] at h
   obtain ⟨rfl,rfl⟩:=aF h
   simp only [jO,List.all_eq_true] at ho
   exact ⟨aI7 (yD hf fun e he=>tX (ho e he)),none'⟩
 ·rename_i sz len zero parts
  cases hf:fill (rep len zero) parts args with
  | none=>rw [hf] at h; exact (aC h).elim
  | some l =>
   rw [hf] at h
   simp only at h
   cases hb:(Nat.beq zero.length sz&&aI l) with
   | false=>rw [hb] at h; exact (aC h).elim
   | true =>
    rw [hb] at h
    obtain ⟨rfl,rfl⟩:=aF h
    exact ⟨trivial,none'⟩
 ·rename_i sz lo' hi' mx t z n g r
  cases hb:Nat.beq z sz with
  | false=>rw [hb] at h; exact (aC h).elim
  | true =>
   rw [hb] at h
   simp only [Bool.not_true,cond_false] at h
   split at h
   ·split at h
    ·split at h
     ·obtain ⟨_,rfl,rfl⟩:=aK h
      exact ⟨trivial,none'⟩
     ·exact (aC h).elim
    ·exact (aC h).elim
   ·exact (aC h).elim
 ·split at h
  ·split at h
   ·obtain ⟨_,rfl,rfl⟩:=aK h
    exact ⟨trivial,none'⟩
   ·exact (aC h).elim
  ·exact (aC h).elim
 ·rename_i sz len np' i off
  split at h
  ·rename_i f cs hi'
   replace h:=(c6 h).2
   cases hb:(Nat.ble (off+len * sz) cs.length&&Nat.ble np' i) with
   | false=>rw [hb] at h; exact (aC h).elim
   | true =>
    rw [hb] at h
    obtain ⟨rfl,rfl⟩:=aV h
    refine ⟨trivial,fun y hy=>?_⟩
    simp only [List.mem_singleton] at hy
    subst hy
    exact eO _
  ·exact (aC h).elim
 ·rename_i sz len np' l
  cases hb:Nat.ble (len * sz) l.length with
  | false=>rw [hb] at h; exact (aC h).elim
  | true =>
   rw [hb] at h
   obtain ⟨rfl,rfl⟩:=aF h
   exact ⟨trivial,none'⟩
 ·obtain ⟨rfl,rfl⟩:=aF h; exact ⟨trivial,none'⟩
 ·obtain ⟨rfl,rfl⟩:=aF h; exact ⟨trivial,none'⟩
 ·rename_i sz bytes t z n g t' z' m g'
  cases hb:Nat.beq z' sz with
  | false=>rw [hb] at h; exact (aC h).elim
  | true =>
   rw [hb] at h
   obtain ⟨h1,h2⟩:=sN h
   exact ⟨h1.flat,by rw [h2]; simp⟩
 ·rename_i sz bytes t z n g b
  cases hb:Nat.beq sz 1 with
  | false=>rw [hb] at h; exact (aC h).elim
  | true =>
   rw [hb] at h
   obtain ⟨h1,h2⟩:=sN h
   exact ⟨h1.flat,by rw [h2]; simp⟩
 ·have h1:=aJB h
  obtain ⟨_,rfl⟩:=sG (lo:=0) (hi:=0) h
  exact ⟨h1.flat,none'⟩
 ·obtain ⟨rfl,rfl⟩:=aF h; exact ⟨trivial,none'⟩
 ·split at h
  ·obtain ⟨rfl,rfl⟩:=aF h; exact ⟨trivial,none'⟩
  ·exact (aC h).elim
 ·unfold un at h
  split at h
  ·obtain ⟨rfl,rfl⟩:=aF h; exact ⟨trivial,none'⟩
  ·obtain ⟨rfl,rfl⟩:=aF h; exact ⟨trivial,none'⟩
  ·exact (aC h).elim
 ·obtain ⟨rfl,rfl⟩:=aF h; exact ⟨trivial,none'⟩
 ·obtain ⟨rfl,rfl⟩:=aF h; exact ⟨trivial,none'⟩
 ·obtain ⟨_,rfl,rfl⟩:=aS h; exact ⟨trivial,none'⟩
 ·obtain ⟨rfl,rfl⟩:=aF h; exact ⟨trivial,none'⟩
 ·obtain ⟨rfl,rfl⟩:=aF h; exact ⟨trivial,none'⟩
 ·rename_i f np'
  cases hf:freeze np' hp args with
  | none=>rw [hf] at h; exact (aC h).elim
  | some p =>
   obtain ⟨ds,us⟩:=p
   rw [hf] at h
   obtain ⟨rfl,rfl⟩:=aV h
   exact ⟨trivial,mY args ds us hf⟩
 ·rename_i i l
  have h1:=ha (.tup l) (by simp)
  cases hb:Nat.blt i l.length with
  | false=>rw [hb] at h; exact (aC h).elim
  | true =>
   rw [hb] at h
   obtain ⟨rfl,rfl⟩:=aF h
   refine ⟨?_,none'⟩
   rcases rB (l:=l) (j:=i) with h2 | h2
   ·have h4:=h1 _ h2
    generalize nth l i .dead=e at h4
    cases e with
    | agg c=>exact fun x hx=>(h4 x hx).1
    | tup c=>exact h4.elim
    | _=>trivial
   ·rw [h2]; trivial
 ·rename_i zero bytes k l k' c
  cases hs:aI zero with
  | false=>rw [hs] at h; exact (aC h).elim
  | true =>
   rw [hs] at h
   cases hrow:Nat.ble 1000000 id with
   | true =>
    rw [hrow] at h
    obtain ⟨_,rfl,rfl⟩:=aS h
    refine ⟨trivial,fun y hy=>?_⟩
    simp only [List.mem_singleton] at hy
    subst hy
    intro e he
    simp only [List.mem_cons,List.not_mem_nil,or_false] at he
    rcases he with rfl | rfl <;> trivial
   | false =>
    rw [hrow] at h
    obtain ⟨_,rfl,rfl⟩:=aS h
    exact ⟨trivial,fun y hy=>by simp at hy⟩
 ·obtain ⟨rfl,rfl⟩:=aF h; exact ⟨trivial,none'⟩
 ·obtain ⟨rfl,rfl⟩:=aF h; exact ⟨trivial,none'⟩
 ·obtain ⟨rfl,rfl⟩:=aF h; exact ⟨trivial,none'⟩
 ·obtain ⟨rfl,rfl⟩:=aV h; exact ⟨trivial,fun y hy=>by simp at hy⟩
 ·obtain ⟨rfl,rfl⟩:=aV h
  refine ⟨trivial,fun y hy=>?_⟩
  simp only [List.mem_singleton] at hy
  subst hy
  intro e he
  simp only [List.mem_cons,List.not_mem_nil,or_false] at he
  rcases he with rfl | rfl | rfl <;> trivial
 ·rename_i i
  unfold q6 at h
  split at h
  ·rename_i s p hi'
   rcases bV h with ⟨_,rfl,rfl⟩ | ⟨_,rfl,rfl⟩
   ·refine ⟨fun e he=>?_,fun y hy=>?_⟩
    ·simp only [List.mem_cons,List.not_mem_nil,or_false] at he
     rcases he with rfl | rfl | rfl <;> trivial
    ·simp only [List.mem_singleton] at hy
     subst hy
     intro e he
     simp only [List.mem_cons,List.not_mem_nil,or_false] at he
     rcases he with rfl | rfl | rfl <;> trivial
   ·refine ⟨fun e he=>?_,none'⟩
    simp only [List.mem_cons,List.not_mem_nil,or_false] at he
    rcases he with rfl
    trivial
  ·exact (aC h).elim
 ·rename_i va lin
  obtain ⟨rfl,rfl⟩:=aV h
  refine ⟨trivial,fun y hy=>?_⟩
  simp only [List.mem_singleton] at hy
  subst hy
  intro e he
  simp only [List.mem_cons,List.not_mem_nil,or_false] at he
  rcases he with rfl | rfl
  ·cases va <;> cases lin <;> trivial
  ·trivial
 ·unfold v6 at h
  split at h
  ·obtain ⟨rfl,rfl⟩:=aF h; exact ⟨trivial,none'⟩
  ·exact (aC h).elim
 ·unfold wU at h
  split at h
  ·obtain ⟨_,h⟩:=aQ h
   obtain ⟨rfl,rfl⟩:=aV h
   refine ⟨trivial,fun y hy=>?_⟩
   simp only [List.mem_singleton] at hy
   subst hy
   intro e he
   simp only [List.mem_cons,List.not_mem_nil,or_false] at he
   rcases he with rfl | rfl <;> trivial
  ·obtain ⟨_,h⟩:=aQ h
   split at h
   ·obtain ⟨_,rfl,rfl⟩:=aS h
    refine ⟨trivial,fun y hy=>?_⟩
    simp only [List.mem_singleton] at hy
    subst hy
    intro e he
    simp only [List.mem_cons,List.not_mem_nil,or_false] at he
    rcases he with rfl | rfl <;> trivial
   ·exact (aC h).elim
  ·exact (aC h).elim
 ·rename_i comma va zero i k
  unfold wL at h
  split at h
  ·rename_i va' n ks vs hi'
   obtain ⟨hva,h⟩:=aQ h
   have hva:va'=va:=by cases va' <;> cases va <;> first | rfl | cases hva
   subst hva
   have hz:∀ ok l,FlatS (gU comma va' ok l):=fun ok l=>by
    have e:FlatS (mkv va' (aM l))∧FlatS (.tup [mkv va' (aM l),.bool ok]):=by
     cases va' with
     | true =>
      refine ⟨fun e he=>?_,fun e he=>?_⟩
      ·obtain ⟨x,_,rfl⟩:=f0 he
       exact c5 x
      ·simp only [List.mem_cons,List.not_mem_nil,or_false] at he
       rcases he with rfl | rfl
       ·intro x hx
        obtain ⟨y,_,rfl⟩:=f0 hx
        exact ⟨c5 y,(bN y).symm⟩
       ·trivial
     | false =>
      have:mkv false (aM l)=(nth l 0 .dead).pure1:=by
       simp only [mkv,cond_false]
       rw [aU]
      rw [this]
      have hc:=c5 (nth l 0 .dead)
      refine ⟨hc.flat,fun e he=>?_⟩
      simp only [List.mem_cons,List.not_mem_nil,or_false] at he
      rcases he with rfl | rfl
      ·generalize (nth l 0 D.dead).pure1=d at hc
       cases d <;> first | trivial | exact hc.elim
      ·trivial
    cases comma with
    | false=>exact e.1
    | true=>exact e.2
   rcases bV h with ⟨_,rfl,rfl⟩ | ⟨_,rfl,rfl⟩
   ·exact ⟨hz _ _,none'⟩
   ·exact ⟨hz _ _,none'⟩
  ·rename_i n ks vs hi'
   obtain ⟨hb,h⟩:=aQ h
   have hm:∀ y∈[(i,false,[D.str k,.mp true n ks vs])],∀ e∈y.2.2,Cell e:=fun y hy=>by
    simp only [List.mem_singleton] at hy
    subst hy
    intro e he
    simp only [List.mem_cons,List.not_mem_nil,or_false] at he
    rcases he with rfl | rfl <;> trivial
   rcases bV h with ⟨_,rfl,rfl⟩ | ⟨_,rfl,rfl⟩
   ·refine ⟨fun e he=>?_,hm⟩
    rcases rQ he with ⟨q,z,m,g,h2,rfl⟩ | ⟨x,rfl⟩
    ·trivial
    ·exact c5 x
   ·refine ⟨fun e he=>?_,hm⟩
    simp only [jO,Bool.and_eq_true,List.all_eq_true] at ho
    exact tX (ho.1 e he)
  ·exact (aC h).elim
 ·obtain ⟨rfl,rfl⟩:=aF h; exact ⟨trivial,none'⟩
 ·obtain ⟨rfl,rfl⟩:=aF h; exact ⟨trivial,none'⟩
 ·obtain ⟨rfl,rfl⟩:=aF h; exact ⟨trivial,none'⟩
 ·rcases bV h with ⟨_,rfl,rfl⟩ | ⟨_,rfl,rfl⟩
  ·exact ⟨trivial,none'⟩
  ·exact ⟨trivial,none'⟩
 ·obtain ⟨rfl,rfl⟩:=aF h; exact ⟨trivial,none'⟩
 ·obtain ⟨_,h⟩:=c6 h
  obtain ⟨_,rfl,rfl⟩:=aK h
  exact ⟨trivial,none'⟩
 ·obtain ⟨rfl,rfl⟩:=aF h; exact ⟨trivial,none'⟩
 ·obtain ⟨rfl,rfl⟩:=aF h; exact ⟨trivial,none'⟩
 ·unfold qY at h
  split at h
  ·obtain ⟨_,h⟩:=aQ h
   obtain ⟨_,h⟩:=l5 h
   have hc:∀ (l:List D) (n:Nat),∀ e∈(aM l).drop n,Cell e:=fun l n e he=>eO l e (List.mem_of_mem_drop he)
   have e1:=fL h (hc _ _)
   obtain ⟨_,rfl⟩:=cH (lo:=0) (hi:=0) h (aX.2 fun d _=>bO d) (hc _ _)
   exact ⟨e1,none'⟩
  ·exact (aC h).elim
 ·unfold nO at h
  split at h
  ·obtain ⟨_,h⟩:=aQ h
   obtain ⟨_,rfl,rfl⟩:=aS h
   refine ⟨trivial,fun y hy e he=>?_⟩
   simp only [List.mem_singleton] at hy
   subst hy
   simp only [List.mem_cons,List.not_mem_nil,or_false] at he
   rcases he with rfl | rfl <;> trivial
  ·exact (aC h).elim
 ·obtain ⟨_,h⟩:=c6 h
  unfold sF at h
  split at h
  ·obtain ⟨_,h⟩:=aQ h
   obtain ⟨_,rfl,rfl⟩:=aS h
   refine ⟨trivial,fun y hy e he=>?_⟩
   simp only [List.mem_singleton] at hy
   subst hy
   simp only [List.mem_cons,List.not_mem_nil,or_false] at he
   rcases he with rfl | rfl <;> trivial
  ·exact (aC h).elim
 ·obtain ⟨_,h⟩:=aQ h
  unfold yF at h
  split at h
  ·obtain ⟨_,h⟩:=aQ h
   obtain ⟨_,rfl,rfl⟩:=aS h
   exact ⟨trivial,fun y hy=>by simp at hy⟩
  ·exact (aC h).elim
 ·exact aGY h
end
def gw (gd:D) (w:Bool):Option Bool :=
 match gd with
 | .bool b=>some (b==w)
 | .tup []=>some false
 | _=>none
def jP (E:Env) (o:AO) (hp:Nat→Option (Bool×List D)) (tk:Nat→Option (Nat×Nat)) (args:List D) (gd:D) (k:D→Upd→Prop):Prop :=
 match o.guard with
 | none=>step E o.op o.id hp tk args k
 | some (_,w)=>match gw gd w with
  | some true=>step E o.op o.id hp tk args k
  | some false=>k (.tup []) Upd.none
  | none=>False
def sX (o:AO) (fr:List D):D:=match o.guard with
 | none=>.dead
 | some (j,_)=>nth fr j .dead
def fU (E:Env):Prop:=∀ j C,ag E j=some C→(∀ ds bs K K',(∀ rs bs',K rs bs'→K' rs bs')→C ds bs K→C ds bs K')∧∀ ds bs K,C ds bs K→∃ rs bs',K rs bs'
section
variable {E:Env} {o p q:AO} {hp hp':Nat→Option (Bool×List D)} {tk tk':Nat→Option (Nat×Nat)} {args:List D} {k k':D→Upd→Prop} {s:St} {lo hi:Nat}
theorem aIT {l:List D} {j:Nat} {d:D} (h:nth l j .dead=d) (hd:d≠.dead):upd l j d=l:=by
 induction l generalizing j with
 | nil=>rfl
 | cons a l ih=>cases j with
  | zero=>simp only [nth] at h; subst h; rfl
  | succ j=>simp only [nth] at h; simp only [upd,ih h]
theorem zX:∀ (l:List D) (i:Nat) (d:D) (k:List D→Prop),aIS l i d k=k (upd l i d)
 | [],_,_,_=>rfl
 | _::_,0,_,_=>rfl
 | a::l,i+1,d,k=>zX l i d fun l'=>k (a::l')
theorem aJM (dst:Option Nat) (v:D) (fr:List D) (k:List D→Prop):aHU dst v fr k=k (fI dst v fr):=by
 cases dst with
 | none=>rfl
 | some d=>exact zX fr d v k
theorem hY (E:Env) (o:AO) (s:St) (k:St→Prop):gOp E o s k↔jP E o s.hp s.tk (evs s.fr o.args) (sX o s.fr) (fun v u=>k (s.next o.dst v u)):=by
 unfold gOp jP sX aJ5
 simp only [aJM,zX]
 cases hg:o.guard with
 | none=>exact Iff.rfl
 | some jw =>
  obtain ⟨j,w⟩:=jw
  simp only
  cases hd:nth s.fr j .dead with
  | bool b =>
   simp only
   have hs:upd s.fr j (.bool b)=s.fr:=aIT hd (by simp)
   cases b <;> cases w <;> simp only [Br,hs,gw] <;> exact Iff.rfl
  | tup l=>cases l <;> exact Iff.rfl
  | _=>exact Iff.rfl
theorem aD4 {C:bA} (hC:∀ ds bs K K',(∀ rs bs',K rs bs'→K' rs bs')→C ds bs K→C ds bs K') {id:Nat} {vs:List D} (h:∀ v u,k v u→k' v u) (hk:fK C id vs hp k):fK C id vs hp k':=by
 unfold fK at hk ⊢
 cases hb:cL hp (ptrs vs) with
 | none=>rw [hb] at hk; exact hk.elim
 | some bs =>
  rw [hb] at hk
  simp only at hk ⊢
  cases hd:dN (ptrs vs) with
  | false=>rw [hd] at hk; exact hk.elim
  | true =>
   rw [hd] at hk
   obtain ⟨h1,h2⟩:=(nI vs bs _).1 hk
   exact (nI vs bs _).2 ⟨h1,hC _ _ _ _ (fun rs bs' hh=>by
    obtain ⟨v,u,h1,h2⟩:=cK hh
    exact gM h1 (h v u h2)) h2⟩
theorem yR {o:Out} (h:∀ v u,k v u→k' v u) (hk:o.then k):o.then k':=by
 obtain ⟨v,u,h1,h2⟩:=cK hk
 exact gM h1 (h v u h2)
def callee (E:Env) (id:Nat) (op:AOp) (args:List D):Option (bA×List D×Bool) :=
 match op with
 | .call p f=>(agc E id f).map fun C=>(C,args,p)
 | .callv p=>match args with
  | .fn f cap::r=>(ag E f).map fun C=>(C,r++cap,p)
  | _=>none
 | _=>none
theorem aEC (p b:Bool) (X:Prop):(bif p then X else Br b X False)↔((p=true∨b=true)∧X):=by
 cases p <;> cases b <;> simp [Br]
theorem jF {op:AOp} (hc:eS op=true) (id:Nat):step E op id hp tk args k↔∃ C vs p,callee E id op args=some (C,vs,p)∧(p=true∨pX vs=true)∧fK C id vs hp k:=by
 rw [gT]
 cases op <;> first | cases hc | skip
 ·rename_i p f
  simp only [callee]
  cases hE:agc E id f with
  | none=>simp
  | some C =>
   simp only [Option.map_some,Option.some.injEq,Prod.mk.injEq]
   rw [aEC]
   constructor
   ·exact fun h=>⟨C,args,p,⟨rfl,rfl,rfl⟩,h⟩
   ·rintro ⟨_,_,_,⟨rfl,rfl,rfl⟩,h⟩
    exact h
 ·rename_i p
  simp only [callee]
  split
  ·rename_i f cap r
   cases hE:ag E f with
   | none =>
    constructor
    ·exact fun h=>h.elim
    ·rintro ⟨_,_,_,h,_⟩
     simp [hE] at h
   | some C =>
    constructor
    ·exact fun h=>⟨C,r++cap,p,by simp [hE],(aEC _ _ _).1 h⟩
    ·rintro ⟨_,_,_,h,h2⟩
     simp only [hE,Option.map_some,Option.some.injEq,Prod.mk.injEq] at h
     obtain ⟨rfl,rfl,rfl⟩:=h
     exact (aEC _ _ _).2 h2
  ·simp
theorem gG {op:AOp} (hc:eS op=false) (hn:jE op=false) (id:Nat):step E op id hp tk args k↔(aR op id hp tk args).then k:=by
 rw [gT]
 cases op <;> first | exact Iff.rfl | (cases hc; done) | (cases hn; done)
theorem rO {op:AOp} (h:jE op=true):op=.mapNext:=by cases op <;> first | rfl | cases h
theorem kN (id:Nat):step E .mapNext id hp tk args k↔∃ i,args=[.ptr i 0]∧nN i hp (hp i) k:=by
 rw [gT]
 simp only
 constructor
 ·intro h
  split at h
  ·exact ⟨_,rfl,h⟩
  ·exact h.elim
 ·rintro ⟨i,rfl,h⟩
  exact h
theorem xP {it:Nat} (h:∀ v u,aCN it hp v u→k v u→k' v u) (hk:nN it hp (hp it) k):nN it hp (hp it) k':=by
 cases hit:hp it with
 | none=>rw [hit] at hk; exact hk.elim
 | some e =>
  rw [hit] at hk
  unfold nN at hk ⊢
  split at hk
  ·rename_i i j b c s q heq
   cases heq
   split at hk
   ·rename_i m c' va nl n ks vs hi
    obtain ⟨rfl,hj,h1,h2⟩:=hk
    refine ⟨rfl,hj,fun hc=>h _ _ (.inl ⟨rfl,rfl⟩) (h1 hc),fun hb x hx hs=>h _ _ ?_ (h2 hb x hx hs)⟩
    subst hb
    exact .inr ⟨i,j,c',s,q,x,m,va,nl,n,ks,vs,hit,hi,rfl,rfl⟩
   ·exact hk.elim
  ·exact hk.elim
theorem aF7 {it:Nat} {e:Option (Bool×List D)} (hk:nN it hp e k):∃ v u,k v u:=by
 unfold nN at hk
 split at hk
 ·rename_i i j b c s q
  split at hk
  ·rename_i m c' va nl n ks vs hi
   obtain ⟨_,_,h1,h2⟩:=hk
   by_cases hall:b=true∨∀ x,x < n j→s x=true
   ·exact ⟨_,_,h1 hall⟩
   ·have hb:b=false:=by cases b <;> simp_all
    have:∃ x,x < n j∧s x=false:=Classical.byContradiction fun hno=>hall (.inr fun x hx=>by
     cases hs:s x with
     | true=>rfl
     | false=>exact absurd ⟨x,hx,hs⟩ hno)
    obtain ⟨x,hx,hs⟩:=this
    exact ⟨_,_,h2 hb x hx hs⟩
  ·exact hk.elim
 ·exact hk.elim
theorem rG {op:AOp} {C:bA} {vs:List D} {p:Bool} {id:Nat} (h:callee E id op args=some (C,vs,p)):∃ j,ag E j=some C:=by
 unfold callee at h
 split at h
 ·rw [Option.map_eq_some_iff] at h
  obtain ⟨C',h1,h2⟩:=h
  cases h2
  exact aK0 h1
 ·split at h
  ·rw [Option.map_eq_some_iff] at h
   obtain ⟨C',h1,h2⟩:=h
   cases h2
   exact ⟨_,h1⟩
  ·cases h
 ·cases h
theorem xO (hE:fU E) {op:AOp} {id:Nat} (h:∀ v u,k v u→k' v u) (hk:step E op id hp tk args k):step E op id hp tk args k':=by
 cases hc:eS op with
 | true =>
  obtain ⟨C,vs,p,h1,h2,h3⟩:=(jF hc id).1 hk
  obtain ⟨j,hj⟩:=rG h1
  exact (jF hc id).2 ⟨C,vs,p,h1,h2,aD4 (hE j C hj).1 h h3⟩
 | false =>
  cases hn:jE op with
  | false=>exact (gG hc hn id).2 (yR h ((gG hc hn id).1 hk))
  | true =>
   have:=rO hn
   subst this
   obtain ⟨i,hi,h1⟩:=(kN id).1 hk
   exact (kN id).2 ⟨i,hi,xP (fun v u _=>h v u) h1⟩
theorem pK {C:bA} {id:Nat} {vs:List D}:fK C id vs hp k↔∃ bs,cL hp (ptrs vs)=some bs∧dN (ptrs vs)=true∧oO vs bs True∧C (mI vs 0) bs (fun rs bs'=>(gZ id (ptrs vs) hp bs rs bs').then k):=by
 have hBr:∀ (b:Bool) (X:Prop),Br b X False↔(b=true∧X):=fun b X=>by cases b <;> simp [Br]
 unfold fK
 cases hb:cL hp (ptrs vs) with
 | none=>simp
 | some bs =>
  simp only [hBr]
  rw [nI]
  constructor
  ·rintro ⟨h1,h2,h3⟩
   exact ⟨bs,rfl,h1,h2,h3⟩
  ·rintro ⟨_,h,h1,h2,h3⟩
   cases h
   exact ⟨h1,h2,h3⟩
theorem yG (hE:fU E) {op:AOp} {id:Nat} (hk:step E op id hp tk args k):∃ v u,k v u:=by
 cases hc:eS op with
 | true =>
  obtain ⟨C,vs,p,h1,h2,h3⟩:=(jF hc id).1 hk
  obtain ⟨j,hj⟩:=rG h1
  obtain ⟨bs,_,_,_,h6⟩:=pK.1 h3
  obtain ⟨rs,bs',h7⟩:=(hE j C hj).2 _ _ _ h6
  obtain ⟨v,u,_,h8⟩:=cK h7
  exact ⟨v,u,h8⟩
 | false =>
  cases hn:jE op with
  | false =>
   obtain ⟨v,u,_,h2⟩:=cK ((gG hc hn id).1 hk)
   exact ⟨v,u,h2⟩
  | true =>
   have:=rO hn
   subst this
   obtain ⟨i,_,h1⟩:=(kN id).1 hk
   exact aF7 h1
theorem fZ (hE:fU E) {gd:D} (h:∀ v u,k v u→k' v u) (hk:jP E o hp tk args gd k):jP E o hp tk args gd k':=by
 unfold jP at hk ⊢
 cases hg:o.guard with
 | none=>rw [hg] at hk; exact xO hE h hk
 | some jw =>
  obtain ⟨j,w⟩:=jw
  rw [hg] at hk
  simp only at hk ⊢
  cases hb:gw gd w with
  | none=>rw [hb] at hk; exact hk.elim
  | some b =>
   rw [hb] at hk
   cases b with
   | true=>exact xO hE h hk
   | false=>exact h _ _ hk
theorem yJ (hE:fU E) {gd:D} (hk:jP E o hp tk args gd k):∃ v u,k v u:=by
 unfold jP at hk
 split at hk
 ·exact yG hE hk
 ·split at hk
  ·exact yG hE hk
  ·exact ⟨_,_,hk⟩
  ·exact hk.elim
theorem pB:∀ {l:List D},pX l=true→ptrs l=[]
 | [],_=>rfl
 | d::l,h=>by
  cases d <;> first | cases h | exact pB (l:=l) h
structure Keys (op:AOp) (id:Nat) (tk:Nat→Option (Nat×Nat)) (u:Upd):Prop where
 q:s9 op=true→u=Upd.none
 h:kA op id=false→∀ x∈u.h,id≤x.1∧x.1 < id+bF op
 t:∀ x∈u.t,(id≤x.1∧x.1 < id+bF op)∨((jB op=true∨kA op id=true)∧tk x.1≠none)
theorem Keys.none {op:AOp} {id:Nat}:Keys op id tk Upd.none:=⟨fun _=>rfl,fun _ x hx=>by simp [Upd.none] at hx,fun x hx=>by simp [Upd.none] at hx⟩
theorem iM {g:Bool} {n:Nat} {l:List D} {v:D} {u:Upd} (h:(cC g n l).holds v u):u=Upd.none:=by
 unfold cC at h
 cases hb:Nat.ble n l.length with
 | false=>rw [hb] at h; exact (aC h).elim
 | true=>rw [hb] at h; exact (aF h).2
theorem aJT {op:BinOp} {x y v:D} {u:Upd} (h:(bin op x y).holds v u):u=Upd.none:=(sG (lo:=0) (hi:=0) h).2
theorem sU {sz bytes id:Nat} {t:Tag} {z n:Nat} {g:Nat→List D} {m:Nat} {k:Nat→List D} {v:D} {u:Upd} (h:(dF id sz bytes tk t z n g m k).holds v u):Keys (.append sz bytes) id tk u:=by
 unfold dF at h
 cases hb:Nat.beq z sz with
 | false=>rw [hb] at h; exact (aC h).elim
 | true =>
  rw [hb] at h
  simp only [Bool.not_true,cond_false] at h
  split at h
  ·rename_i i
   split at h
   ·rename_i z' n' hi'
    cases hb2:Nat.beq z' sz with
    | false=>rw [hb2] at h; exact (aC h).elim
    | true =>
     rw [hb2] at h
     obtain ⟨_,rfl,rfl⟩:=aS h
     refine ⟨fun h=>(by cases h),fun _ x hx=>by simp at hx,fun x hx=>?_⟩
     simp only [List.mem_singleton] at hx
     subst hx
     exact .inr ⟨.inl rfl,by simp [hi']⟩
   ·exact (aC h).elim
  ·obtain ⟨_,rfl,rfl⟩:=aS h
   refine ⟨fun h=>(by cases h),fun _ x hx=>by simp at hx,fun x hx=>?_⟩
   simp only [List.mem_singleton] at hx
   subst hx
   exact .inl (by simp [bF])
  ·exact (aC h).elim
theorem aFL {op:AOp} {id:Nat} {v:D} {u:Upd} (hh:(jN op id hp args).holds v u):Keys op id tk u:=by
 have N:∀ {u:Upd},u=Upd.none→Keys op id tk u:=fun h=>h ▸ Keys.none
 unfold jN at hh
 split at hh
 ·unfold aHT at hh
  split at hh
  ·obtain ⟨_,hh⟩:=aQ hh
   exact N (aF hh).2
  ·exact (aC hh).elim
 ·unfold aID at hh
  split at hh
  ·obtain ⟨_,hh⟩:=aQ hh
   obtain ⟨_,rfl,rfl⟩:=aK hh
   exact ⟨fun h=>(by cases h),fun h=>(by cases h),fun x hx=>by simp at hx⟩
  ·exact (aC hh).elim
 ·rename_i i j b kx ky q
  unfold qO at hh
  split at hh
  ·rename_i mm c va nl n ks vs va' ks' vs' hi hq
   cases hc:(jk mm j || Nat.beq q i) with
   | true=>rw [hc] at hh; exact (aC hh).elim
   | false =>
    rw [hc] at hh
    obtain ⟨_,rfl,rfl⟩:=aK hh
    exact ⟨fun h=>(by cases h),fun h=>(by cases h),fun x hx=>by simp at hx⟩
  ·exact (aC hh).elim
 ·unfold aHO at hh
  split at hh
  ·obtain ⟨_,hh⟩:=aQ hh
   rcases bV hh with ⟨_,rfl,rfl⟩ | ⟨_,rfl,rfl⟩
   ·exact Keys.none
   ·exact Keys.none
  ·exact (aC hh).elim
 ·rename_i i j b kx ky
  unfold qC at hh
  split at hh
  ·rename_i mm c va nl n ks vs hi
   cases hc:jk mm j with
   | true=>rw [hc] at hh; exact (aC hh).elim
   | false =>
    rw [hc] at hh
    exact N (aF hh).2
  ·exact (aC hh).elim
 ·unfold aIG at hh
  split at hh
  ·obtain ⟨_,hh⟩:=aQ hh
   obtain ⟨rfl,rfl⟩:=aV hh
   exact ⟨fun h=>(by cases h),fun h=>(by cases h),fun x hx=>by simp at hx⟩
  ·exact (aC hh).elim
 ·unfold aA2 at hh
  split at hh
  ·obtain ⟨_,hh⟩:=aQ hh
   obtain ⟨rfl,rfl⟩:=aV hh
   refine ⟨fun h=>(by cases h),fun _ x hx=>?_,fun x hx=>by simp at hx⟩
   simp only [List.mem_singleton] at hx
   subst hx
   simp [bF]
  ·exact (aC hh).elim
 ·unfold vI at hh
  split at hh
  ·split at hh
   ·exact N (aS hh).2.2
   ·exact (aC hh).elim
  ·exact (aC hh).elim
 ·exact N (aF hh).2
 ·exact N (aF hh).2
 ·exact N (aF hh).2
 ·rename_i g z len k off m nl kd i
  have hh:(bif !(!(g || !(Nat.beq z 1))) then Out.bad else Out.chk (decide (0≤i)&&decide (i < len)&&Nat.ble len m) (.oref k (off+i.toNat) (nl (off+i.toNat))) Upd.none).holds v u:=by rw [Bool.not_not]; exact hh
  obtain ⟨_,hh⟩:=c6 hh
  exact N (aK hh).2.2
 ·split at hh
  ·split at hh
   ·split at hh
    ·exact N (aK hh).2.2
    ·exact (aC hh).elim
   ·exact (aC hh).elim
  ·exact (aC hh).elim
 ·exact N (aF hh).2
 ·obtain ⟨_,hh⟩:=aQ hh
  exact N (aK hh).2.2
 ·exact N (aF hh).2
 ·exact (aC hh).elim
theorem aIA {op:AOp} {id:Nat} {v:D} {u:Upd} (hh:(aR op id hp tk args).holds v u):Keys op id tk u:=by
 have N:∀ {u:Upd},u=Upd.none→Keys op id tk u:=fun h=>h ▸ Keys.none
 unfold aR at hh
 split at hh
 all_goals (try (exact (aC hh).elim))
 all_goals (try (exact N (aF hh).2))
 all_goals (try (exact N (aK hh).2.2))
 all_goals (try (exact N (aS hh).2.2))
 all_goals (try (exact N (iM hh)))
 all_goals (try (exact N (aJT hh)))
 ·rename_i cells
  cases hs:aI cells with
  | false=>rw [hs] at hh; exact (aC hh).elim
  | true =>
   rw [hs] at hh
   obtain ⟨rfl,rfl⟩:=aV hh
   refine ⟨fun h=>(by cases h),fun _ x hx=>?_,fun x hx=>.inl ?_⟩
   ·simp only [List.mem_singleton] at hx
    subst hx
    simp only [bF]
    omega
   ·have h1:=gP _ _ _ hx
    have h2:=lQ _ _ _ hx
    simp only [bF]
    omega
 ·rename_i x
  cases hs:aI x.cells with
  | false=>rw [hs] at hh; exact (aC hh).elim
  | true =>
   rw [hs] at hh
   obtain ⟨rfl,rfl⟩:=aV hh
   refine ⟨fun h=>(by cases h),fun _ x hx=>?_,fun x hx=>by simp at hx⟩
   simp only [List.mem_singleton] at hx
   subst hx
   simp [bF]
 ·split at hh
  ·rename_i f cs _
   cases hfs:(f || aI cs) with
   | false=>rw [hfs] at hh; exact N (qK hh).2
   | true=>rw [hfs] at hh; exact N (iM hh)
  ·exact (aC hh).elim
 ·rename_i n i off x
  split at hh
  ·rename_i cs hi'
   cases hsol:aI cs with
   | false =>
    rw [hsol] at hh
    exact ⟨fun h=>(by cases h),fun h=>(by cases h),by rw [(nH (lo:=0) (hi:=0) hh (by omega) (by cases x <;> first | rfl | exact bO _ | exact iY _)).2.2]; simp⟩
   | true =>
   rw [hsol] at hh
   simp only [Bool.not_true,cond_false] at hh
   cases hb:(aI x.cells&&Nat.beq x.cells.length n&&Nat.ble (off+n) cs.length) with
   | false=>rw [hb] at hh; exact (aC hh).elim
   | true =>
    rw [hb] at hh
    obtain ⟨rfl,rfl⟩:=aV hh
    exact ⟨fun h=>(by cases h),fun h=>(by cases h),fun x hx=>by simp at hx⟩
  ·exact (aC hh).elim
 ·rename_i sz t z n g k i
  cases hb:Nat.beq z sz with
  | false=>rw [hb] at hh; exact (aC hh).elim
  | true=>rw [hb] at hh; exact N (aK hh).2.2
 ·rename_i g sz len l k i
  cases hl:cC g sz (l.drop (i.toNat * sz)) with
  | ok v' u' =>
   rw [hl] at hh
   obtain ⟨_,rfl,rfl⟩:=aK hh
   exact N (iM (v:=v) (.inl hl))
  | bad=>rw [hl] at hh; exact (aC hh).elim
  | ask p v' u'=>rw [hl] at hh; exact (aC hh).elim
  | chk p v' u'=>rw [hl] at hh; exact (aC hh).elim
  | alt p v' u' v2 u2=>rw [hl] at hh; exact (aC hh).elim
 ·split at hh
  ·exact N (aF hh).2
  ·exact (aC hh).elim
 ·rename_i sz len zero parts
  split at hh
  ·rename_i l hl
   cases hb:(Nat.beq zero.length sz&&aI l) with
   | false=>rw [hb] at hh; exact (aC hh).elim
   | true=>rw [hb] at hh; exact N (aF hh).2
  ·exact (aC hh).elim
 ·rename_i sz lo' hi' mx t z n g r
  cases hb:Nat.beq z sz with
  | false=>rw [hb] at hh; exact (aC hh).elim
  | true =>
   rw [hb] at hh
   simp only [Bool.not_true,cond_false] at hh
   split at hh
   ·split at hh
    ·split at hh
     ·exact N (aK hh).2.2
     ·exact (aC hh).elim
    ·exact (aC hh).elim
   ·exact (aC hh).elim
 ·split at hh
  ·split at hh
   ·exact N (aK hh).2.2
   ·exact (aC hh).elim
  ·exact (aC hh).elim
 ·rename_i sz len np' i off
  split at hh
  ·rename_i f cs hi'
   replace hh:=(c6 hh).2
   cases hb:(Nat.ble (off+len * sz) cs.length&&Nat.ble np' i) with
   | false=>rw [hb] at hh; exact (aC hh).elim
   | true =>
    rw [hb] at hh
    obtain ⟨rfl,rfl⟩:=aV hh
    exact ⟨fun h=>(by cases h),fun h=>(by cases h),fun x hx=>by simp at hx⟩
  ·exact (aC hh).elim
 ·rename_i sz len np' l
  cases hb:Nat.ble (len * sz) l.length with
  | false=>rw [hb] at hh; exact (aC hh).elim
  | true=>rw [hb] at hh; exact N (aF hh).2
 ·rename_i sz bytes t z n g t' z' m g'
  cases hb:Nat.beq z' sz with
  | false=>rw [hb] at hh; exact (aC hh).elim
  | true=>rw [hb] at hh; exact sU hh
 ·rename_i sz bytes t z n g b
  cases hb:Nat.beq sz 1 with
  | false=>rw [hb] at hh; exact (aC hh).elim
  | true=>rw [hb] at hh; exact sU hh
 ·split at hh
  ·exact N (aF hh).2
  ·exact (aC hh).elim
 ·unfold un at hh
  split at hh
  ·exact N (aF hh).2
  ·exact N (aF hh).2
  ·exact (aC hh).elim
 ·rename_i f np'
  split at hh
  ·obtain ⟨rfl,rfl⟩:=aV hh
   exact ⟨fun h=>(by cases h),fun h=>(by cases h),fun x hx=>by simp at hx⟩
  ·exact (aC hh).elim
 ·rename_i i l
  cases hb:Nat.blt i l.length with
  | false=>rw [hb] at hh; exact (aC hh).elim
  | true=>rw [hb] at hh; exact N (aF hh).2
 ·rename_i zero bytes k l k' c
  cases hs:aI zero with
  | false=>rw [hs] at hh; exact (aC hh).elim
  | true =>
   rw [hs] at hh
   cases hrow:Nat.ble 1000000 id with
   | true =>
    rw [hrow] at hh
    obtain ⟨_,rfl,rfl⟩:=aS hh
    refine ⟨fun h=>(by cases h),fun _ x hx=>?_,fun x hx=>by simp at hx⟩
    simp only [List.mem_singleton] at hx
    subst hx
    simp [bF]
   | false =>
    rw [hrow] at hh
    obtain ⟨_,rfl,rfl⟩:=aS hh
    refine ⟨fun h=>(by cases h),fun _ x hx=>by simp at hx,fun x hx=>.inl ?_⟩
    simp only [List.mem_singleton] at hx
    subst hx
    simp [bF]
 ·obtain ⟨rfl,rfl⟩:=aV hh
  refine ⟨fun h=>(by cases h),fun _ x hx=>by simp at hx,fun x hx=>.inl ?_⟩
  simp only [List.mem_singleton] at hx
  subst hx
  simp [bF]
 ·obtain ⟨rfl,rfl⟩:=aV hh
  refine ⟨fun h=>(by cases h),fun _ x hx=>?_,fun x hx=>by simp at hx⟩
  simp only [List.mem_singleton] at hx
  subst hx
  simp [bF]
 ·unfold q6 at hh
  split at hh
  ·rcases bV hh with ⟨_,rfl,rfl⟩ | ⟨_,rfl,rfl⟩
   ·exact ⟨fun h=>(by cases h),fun h=>(by cases h),fun x hx=>by simp at hx⟩
   ·exact N rfl
  ·exact (aC hh).elim
 ·obtain ⟨rfl,rfl⟩:=aV hh
  refine ⟨fun h=>(by cases h),fun _ x hx=>?_,fun x hx=>by simp at hx⟩
  simp only [List.mem_singleton] at hx
  subst hx
  simp [bF]
 ·unfold v6 at hh
  split at hh
  ·exact N (aF hh).2
  ·exact (aC hh).elim
 ·unfold wU at hh
  split at hh
  ·obtain ⟨_,hh⟩:=aQ hh
   obtain ⟨rfl,rfl⟩:=aV hh
   exact ⟨fun h=>(by cases h),fun h=>(by cases h),fun x hx=>by simp at hx⟩
  ·obtain ⟨_,hh⟩:=aQ hh
   split at hh
   ·rename_i u0 p hput
    obtain ⟨_,rfl,rfl⟩:=aS hh
    refine ⟨fun h=>(by cases h),fun h=>(by cases h),fun x hx=>.inr ⟨.inr rfl,?_⟩⟩
    obtain ⟨e,he⟩:=pY hput x hx
    rw [he]
    exact fun h=>by cases h
   ·exact (aC hh).elim
  ·exact (aC hh).elim
 ·unfold wL at hh
  split at hh
  ·obtain ⟨_,hh⟩:=aQ hh
   rcases bV hh with ⟨_,rfl,rfl⟩ | ⟨_,rfl,rfl⟩
   ·exact N rfl
   ·exact N rfl
  ·obtain ⟨hb,hh2⟩:=aQ hh
   simp only [Bool.and_eq_true,Bool.not_eq_true'] at hb
   obtain ⟨⟨⟨⟨hva,_⟩,hsl⟩,hlen⟩,_⟩:=hb
   have hlen:=Nat.eq_of_beq_eq_true hlen
   subst hva
   rcases bV hh2 with ⟨_,rfl,rfl⟩ | ⟨_,rfl,rfl⟩
   ·refine ⟨fun h=>(by cases h),fun h=>absurd h (by simp [kA,aCG,hsl]),fun x hx=>.inl ?_⟩
    have:=rN hx
    simp only [bF]
    omega
   ·exact ⟨fun h=>(by cases h),fun h=>absurd h (by simp [kA,aCG,hsl]),fun x hx=>by simp at hx⟩
  ·exact (aC hh).elim
 ·rcases bV hh with ⟨_,rfl,rfl⟩ | ⟨_,rfl,rfl⟩
  ·exact N rfl
  ·exact N rfl
 ·obtain ⟨_,hh⟩:=c6 hh
  exact N (aK hh).2.2
 ·unfold qY at hh
  split at hh
  ·obtain ⟨_,hh⟩:=aQ hh
   obtain ⟨_,hh⟩:=l5 hh
   exact N (iM hh)
  ·exact (aC hh).elim
 ·unfold nO at hh
  split at hh
  ·obtain ⟨_,hh⟩:=aQ hh
   obtain ⟨_,rfl,rfl⟩:=aS hh
   exact ⟨fun h=>(by cases h),fun h=>(by cases h),fun x hx=>by simp at hx⟩
  ·exact (aC hh).elim
 ·obtain ⟨hc,hh⟩:=c6 hh
  obtain ⟨hc,_⟩:=dV hc
  obtain ⟨hc,_⟩:=dV hc
  unfold sF at hh
  split at hh
  ·obtain ⟨_,hh⟩:=aQ hh
   obtain ⟨_,rfl,rfl⟩:=aS hh
   refine ⟨fun h=>(by cases h),fun h=>?_,fun x hx=>by simp at hx⟩
   have:Nat.ble 1000000 id=false:=h
   rw [hc] at this
   cases this
  ·exact (aC hh).elim
 ·obtain ⟨_,hh⟩:=aQ hh
  unfold yF at hh
  split at hh
  ·obtain ⟨_,hh⟩:=aQ hh
   obtain ⟨_,rfl,rfl⟩:=aS hh
   refine ⟨fun h=>(by cases h),fun _ x hx=>by simp at hx,fun x hx=>?_⟩
   simp only [List.mem_singleton] at hx
   subst hx
   exact .inl (by simp [bF])
  ·exact (aC hh).elim
 ·exact aFL hh
end
end Go.Abs
