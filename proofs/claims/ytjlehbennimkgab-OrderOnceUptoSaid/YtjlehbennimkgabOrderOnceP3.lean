/- The abstract machine and its soundness. -/
import Derived.Carry
import Derived.ChangeOld
import Derived.Lib.Bytealg
import Derived.OpenShut
import GoSem.Claim
import Derived.Test.YtjlehbennimkgabOrderOnceP2
set_option linter.unusedVariables false
set_option linter.unusedSimpArgs false
namespace Go.Abs
open Go
section
variable {P:Program} {F:Nat→FuncId} {ft:FT} {E:Env} {np:Nat}
theorem aAY (fn:Func) (tmps:Array Value):results fn tmps=(do let vs ← fn.results.mapM (uH tmps); pure (fL vs)):=by
 have:(fun r=>match r with
  | .tmp t=>pure (tmps.getD t undef)
  | .cell a t=>do loadVar t (← asAddr (tmps.getD a undef)):ResultVar→Sem Value)=uH tmps:=by
  funext r
  cases r <;> rfl
 rw [← this]
 rfl
theorem aEM {σ:Og} {w:World} {ext:List Nat} {vals:Array Value} {ds:List D} {bs:List (List D)} (h:CPre F σ w ext vals ds bs) {n more:Nat} (hn:n - vals.size=more) {np:Nat} (hnp:bs.length≤np) :
  Rel F w.heap.size np w ext σ (G0 σ ext) (init ds bs more) { tmps:=vals++Array.replicate (n - vals.size) undef, defers:=[] } w∧∀ hi, Clean np hi (init ds bs more):=by
 have hb:∀ id cs, ag (mD 0 bs) id=some (false, cs)→id < bs.length∧cs=bs.getD id []:=fun id cs hx=>by
  obtain ⟨_, h2, h3⟩:=kB hx
  cases h3
  exact ⟨by omega, by simp⟩
 have hbt:∀ id cs, ag (mD 0 bs) id=some (true, cs)→False:=fun id cs hx=>by
  obtain ⟨_, _, h3⟩:=kB hx
  cases h3
 have ownb:∀ b i, bL (G0 σ ext) (ag (mD 0 bs)) (fun _=>none) b (.inl i)→i < bs.length∧b=ext.getD i 0:=fun b i ⟨cs, h1, h2⟩=>by
  obtain ⟨h3, h4⟩:=hb i cs h1
  refine ⟨h3, ?_⟩
  have h2:Blk (G0 σ ext) i cs b:=h2
  rcases h2 with ⟨_, h2⟩ | ⟨w1, z, n1, g, c, h5, h6, h7⟩
  ·exact h2.symm
  ·rcases h.blocks i h3 with ⟨z', n', g', e1, a, c', e2, _, e3, e4⟩ | ⟨e1, _⟩
   ·rw [← h4, h5] at e1
    cases e1
    have h6:σ.η i n1=_:=h6
    rw [e2] at h6
    cases h6
    have:=(e4 h7).1
    cases this
    rfl
   ·rw [← h4, h5] at e1
    cases e1
 have extinj:∀ i j, i < bs.length→j < bs.length→ext.getD i 0=ext.getD j 0→i=j:=fun i j hi hj he=>by
  have hi':i < ext.length:=by rw [h.len]; exact hi
  have hj':j < ext.length:=by rw [h.len]; exact hj
  simp [hi', hj'] at he
  have hp:=List.pairwise_iff_getElem.1 h.nodup
  rcases Nat.lt_trichotomy i j with h1 | h1 | h1
  ·exact absurd he (hp i j hi' hj' h1)
  ·exact h1
  ·exact absurd he.symm (hp j i hj' hi' h1)
 refine ⟨⟨rfl, ?_, fun i hi=>?_, ?_, fun id _=>rfl⟩, fun hi=>⟨fun i hi'=>?_, fun i f cs hx=>?_, fun i e hx=>by cases hx⟩⟩
 ·simp only [init, List.length_append, kK, Array.size_append, Array.size_replicate, h.size, ← hn]
 ·simp only [init, List.length_append, kK] at hi
  simp only [init]
  rw [iC]
  split
  ·rename_i hlt
   have:(vals++Array.replicate (n - vals.size) undef).getD i undef=vals.getD i undef:=by
    simp only [Array.getD_eq_getD_getElem?]
    rw [Array.getElem?_append_left (by rw [h.size]; exact hlt)]
   rw [this]
   exact h.args i hlt
  ·rw [uT]
   exact Rd.dead _
 ·refine ⟨h.stab, fun b o _=>rfl, rfl, rfl, rfl, Nat.le_refl _, fun b _ _=>rfl, fun id cs hx hna=>?_, fun id fw z n g hx=>?_, fun id cs hx=>(hbt id cs hx).elim, fun i z n hx=>by simp [init] at hx, fun b k k' hk hk'=>?_, fun b k hk=>?_, fun b r hr=>(by cases hr), fun id x va n ks vs hx _=>?_⟩
  ·obtain ⟨h1, rfl⟩:=hb id cs hx
   rcases h.blocks id h1 with ⟨z, n, g, e1, _⟩ | ⟨h2, c, e, h3, h4, h5, h6⟩
   ·rw [e1] at hna
    cases hna
   ·exact ⟨_, h3, .inl ⟨h2, c, e, rfl, h4, fun j hj=>.pure (h5 j hj).1 (by rw [(h5 j hj).2]; exact bU _ _)⟩, h6⟩
  ·obtain ⟨h1, h2⟩:=hb id _ hx
   rcases h.blocks id h1 with ⟨z', n', g', e1, a, c, e2, e3, e4, e5⟩ | ⟨e1, _⟩
   ·rw [← h2] at e1
    cases e1
    refine ⟨a, c, ⟨e2, e3, fun m hm=>e4 m (by omega), fun _=>⟨rfl, e2⟩, fun hc=>⟨_, (e5 hc).1⟩⟩, fun b hb' hc=>?_⟩
    obtain ⟨e6, e7, o, e8, e9⟩:=e5 hc
    rw [hb'] at e6
    cases e6
    exact ⟨e7, o, e8, e9⟩
   ·rw [← h2] at e1
    cases e1
  ·cases k with
   | inr i=>obtain ⟨_, _, _, h1, _⟩:=hk; cases h1
   | inl i =>
    cases k' with
    | inr j=>obtain ⟨_, _, _, h1, _⟩:=hk'; cases h1
    | inl j =>
     obtain ⟨h1, h2⟩:=ownb b i hk
     obtain ⟨h3, h4⟩:=ownb b j hk'
     rw [extinj i j h1 h3 (h2.symm.trans h4)]
  ·cases k with
   | inr i=>obtain ⟨_, _, _, h1, _⟩:=hk; cases h1
   | inl i =>
    obtain ⟨h1, h2⟩:=ownb b i hk
    refine .inr ⟨?_, i, rfl, by omega, by rw [h.len]; exact h1⟩
    rw [h2]
    have:i < ext.length:=by rw [h.len]; exact h1
    simp [this]
  ·obtain ⟨h1, h2⟩:=hb id _ hx
   rcases h.blocks id h1 with ⟨z', n', g', e1, _⟩ | ⟨e1, _⟩
   ·rw [← h2] at e1
    cases e1
   ·rw [← h2] at e1
    cases x <;> cases e1
 ·simp only [init, List.length_append, kK] at hi'
  simp only [init]
  rw [iC]
  split
  ·rename_i hlt
   exact qV (h.clean i hlt hi) hnp (Nat.le_refl _)
  ·rw [uT]
   rfl
 ·obtain ⟨_, h2, h3⟩:=kB hx
  cases h3
  refine ⟨by omega, ?_⟩
  simp only [Nat.sub_zero]
  rcases h.blocks i (by omega) with ⟨z, n, g, e1, _⟩ | ⟨_, c, e, _, _, h5, _⟩
  ·rw [e1]
   rfl
  ·refine aR.2 fun d hd=>?_
   obtain ⟨j, hj, rfl⟩:=List.mem_iff_getElem.1 hd
   have:=(h5 j hj).2
   rw [cY _ _ hj] at this
   rw [this]
   exact dP _
theorem wU (n:Nat) (cuts:List (Nat×Σ α:Type, α→Tm)):n≤aF0 n cuts:=by
 unfold aF0
 split
 ·rename_i j _ _
  cases h:(Nat.beq j 999999&&Nat.ble n 1000000) with
  | false=>exact Nat.le_refl _
  | true =>
   simp only [Bool.and_eq_true] at h
   exact Nat.le_of_ble_eq_true h.2
 ·exact Nat.le_refl _
theorem aD9 (hE : EnvOk P F E) (hft : ∀ f j, ag ft f = some j → F j = f) (hmix : P.follows .mixedOrders = true) {f : FuncId} {fn : Func} (hf : P.funcs[f]? = some fn) (hname : (fn.name == "runtime.NumGoroutine") = false) {kills : List iX} {cuts : List (Nat × Σ α : Type, α → Tm)} {af : AF}
  (ht:trF P ft np kills cuts fn=some af):cM P F f (aG5 E af (fn.params.size+fn.nfree) np):=by
 unfold trF at ht
 cases hbd:fn.body with
 | none=>rw [hbd] at ht; cases ht
 | some c =>
  rw [hbd] at ht
  simp only at ht
  split at ht
  ·rename_i b ts' rs hc hrs
   cases ht
   refine ⟨fun args w=>?_, fun ds bs K K' hK hh=>⟨hh.1, hh.2.1, ?_⟩, fun ds bs K hh=>?_, fun σ w ext vals ds bs K pre hh=>?_⟩
   ·have hname' : ¬ fn.name = "runtime.NumGoroutine" := by simpa using hname
    simp [callFunc, hf, hname', hbd]
   ·exact dM hE.mf b (aF5 hK) hh.2.2
   ·obtain ⟨e, s', h⟩:=eA hE.mf b hh.2.2
    exact aFH h
   ·obtain ⟨hl, hlb, hrun⟩:=hh
    subst hlb
    obtain ⟨hle, hok⟩:=hJ hE hft hmix c _ ts' b hc
    obtain ⟨r, hcl⟩:=aEM pre (n:=fn.ntmps) (more:=fn.ntmps - (fn.params.size+fn.nfree)) (by rw [pre.size, hl]) (wU bs.length cuts)
    refine calls_of_wp hf hbd (hok (Nat.le_refl _) r hcl hrun ?_)
    intro e s' a' w' G' hq r' _
    have key:(l9 rs (aCM bs.length) s' fun vs=>cD s'.hp (aCM bs.length) fun bs=>aAR K vs bs)→a'.defers=[]∧∃ v, (results fn a'.tmps).run P w'=.ok v w'∧∃ vs rs bs' σ', Ending.returned v=.returned (fL vs)∧K rs bs'∧CPost σ w ext w' σ' rs bs' vs:=by
     intro hk
     have m:=r'.mem
     have hB:∀ i e b, s'.tk i=some e→bL G' s'.hp s'.tk b (.inr i)→w.heap.size≤b:=fun i e b _ ho=>by
      rcases m.own2 b _ ho with h | ⟨_, id, h, _⟩
      ·exact h
      ·cases h
     obtain ⟨vals', ds', e1, e2, e3, e4, e6⟩:=aA0 (P:=P) m r'.slots hB (fun i hi=>by rw [n4]; exact List.mem_range.2 (by rw [pre.len] at hi; exact hi)) hrs hk
     obtain ⟨bs2, ⟨vs', bs', d1, d2, hK⟩, b1, b2⟩:=iM e2
     obtain ⟨q1, q2⟩:=d2.spec
     have hlen:=d1.length
     rw [n4] at b1 b2
     simp only [List.length_range] at b1 b2
     refine ⟨r'.defers, fL vals'.toArray, ?_, vals'.toArray, vs', bs', G'.σ, rfl, hK, ?_⟩
     ·have hm:(fn.results.mapM (uH a'.tmps)).run P w'=.ok vals'.toArray w':=by
       rw [Array.mapM_eq_mapM_toList]
       simp [e1]
      rw [aAY]
      simp only [Sem.run_bind, hm, Result.andThen_ok, Sem.run_pure]
     ·refine ⟨m.stab, fun b o v hv=>?_, fun b o hb=>m.old b o hb, m.os, m.tape, m.output, m.base, fun b hb he=>m.keep b hb he, fun k f z n g hk1 hk2 hbk=>?_, fun k hk1 hk2 hk3'=>?_, by simp [e3, hlen], fun j hj=>?_, fun i j b hi hj ho ho'=>?_⟩
      ·obtain ⟨_, c0, e0, fz0, h1, _⟩:=pre.stab b o v hv
       rw [m.old b o (Array.getElem?_eq_some_iff.1 h1).1]
       exact hv
      ·have hk3:k < bs.length:=by omega
       obtain ⟨cs, h1, hsol, h2⟩:=b2 k hk3
       have h3:(List.range bs.length).getD k 0=k:=by simp [hk3]
       rw [h3] at h1
       have h8:=q2 k
       rw [h2, hbk] at h8
       obtain ⟨x, g0, e0, d3, d4⟩:=h8.arr_inv
       obtain ⟨fw, rfl⟩:∃ fw, cs=[.dead, .arr fw z n g0]:=by
        rcases cE false cs with ⟨fw, _, _, g2, rfl, h8⟩ | ⟨h7, h8⟩
        ·rw [h8] at e0
         cases e0
         exact ⟨fw, rfl⟩
        ·rw [h8] at e0
         have e5:=aT cs 1
         rw [e0] at e5
         generalize nth cs 1 D.dead=d at e5
         cases d <;> simp [nth, D.pure1] at e5
       obtain ⟨a0, c0, h9, h10⟩:=m.rows k fw z n g0 h1
       refine ⟨a0, c0, (h9.mine (Nat.lt_of_lt_of_le hk3 (wU _ _))).2, fun b hb0 hc0=>?_⟩
       obtain ⟨_, o0, h11, h12⟩:=h10 b hb0 hc0
       exact ⟨o0, h11, h12.deq d3 d4⟩
      ·have hk3:k < bs.length:=by omega
       obtain ⟨cs, h1, hsol0, h2⟩:=b2 k hk3
       have h3:(List.range bs.length).getD k 0=k:=by simp [hk3]
       rw [h3] at h1
       have h8:=q2 k
       rw [h2] at h8
       have hsol:aG cs=true:=by
        unfold okB at hsol0
        cases hh:bQ cs with
        | false=>rw [hh, Bool.or_false] at hsol0; exact hsol0
        | true =>
         obtain ⟨_, _, _, _, rfl⟩:=cR hh
         obtain ⟨y, e5, _⟩:=DEqs.of_arr (h8:DEqs [.dead, .arr _ _ _ _] _)
         rw [e5] at hk3'
         cases hk3'
       rw [n9 (bN hsol)] at h8
       obtain ⟨o0, h4, hh0, _⟩:=m.vars k cs h1 (bN hsol)
       obtain ⟨c0, e0, rfl, h5, h6⟩:=hh0.cells hsol
       have h7:=r'.par k (Nat.lt_of_lt_of_le hk3 (wU _ _))
       rw [h7] at h4
       refine ⟨c0, e0, h4, by rw [h5, ← h8.length, aJ], fun j hj=>?_⟩
       rw [← h8.length, aJ] at hj
       refine h8.spec.2 j ?_
       rw [aT, bE]
       exact (h6 j hj).pure1
      ·have h1:=e4 j (by omega)
       have h2:=(d1.res (σ:=G'.σ) (w:=w') (B:=w.heap.size) (v:=vals'.getD j undef) j (by omega)).1 h1
       simpa [a7] using h2
      ·have h1:=(d1.res (σ:=G'.σ) (w:=w') (B:=w.heap.size) (v:=vals'.getD i undef) i (by omega)).2 b (by simpa [a7] using ho)
       have h2:=(d1.res (σ:=G'.σ) (w:=w') (B:=w.heap.size) (v:=vals'.getD j undef) j (by omega)).2 b (by simpa [a7] using ho')
       exact e6 i j b (by omega) (by omega) h1 h2
    cases e with
    | normal=>exact key hq
    | exit j=>exact hq.elim
    | ret=>exact key hq
  ·cases ht
end
section
variable {P:Program} {F:Nat→FuncId} {ft:FT} {E:Env} {np:Nat} {f:FuncId}
theorem qZ:∀ {bs:List (List D)} {k:Nat}, qD bs=true→k < bs.length→okB (bs.getD k [])=true
 | [], k, _, hk=>by simp at hk
 | b::bs, 0, h, _=>by simp only [qD, Bool.and_eq_true] at h; exact h.1
 | b::bs, k+1, h, hk=>by
  simp only [qD, Bool.and_eq_true] at h
  have:=qZ h.2 (k:=k) (by simpa using hk)
  simpa using this
theorem CPre.deq {σ:Og} {w:World} {ext:List Nat} {vals:Array Value} {ds ds':List D} {bs bs':List (List D)} (h:CPre F σ w ext vals ds bs) (e:DEqs ds ds') (eb:DEqB bs bs') (hs:qD bs'=true):CPre F σ w ext vals ds' bs':=by
 obtain ⟨hl, hb⟩:=eb.spec
 refine ⟨h.stab, h.size.trans e.1, fun j hj=>(e.2 j).rd (h.args j (by rw [e.1]; exact hj)), fun j hj q=>by rw [← hl]; exact (e.2 j).names (h.clean j (by rw [e.1]; exact hj) q), h.len.trans hl, h.nodup, fun k hk=>?_⟩
 have d:=hb k
 have hok:=qZ hs hk
 rcases h.blocks k (by rw [hl]; exact hk) with ⟨z, n, g, h1, a, c, h2, h3, h4, h5⟩ | ⟨h1, c, e', h2, h3, h4, h5⟩
 ·rw [h1] at d
  obtain ⟨y, e1, e2⟩:=d.of_arr
  rw [e1] at hok
  have hy:∃ g', y=.arr false z n g'∧(∀ i, i < n→(g i).length=(g' i).length)∧∀ i, i < n→∀ j, DEq (nth (g i) j .dead) (nth (g' i) j .dead):=by
   cases e2 with
   | refl=>exact ⟨g, rfl, fun _ _=>rfl, fun _ _ _=>.refl _⟩
   | dead=>cases hok
   | arr _ _ _ _ g' e3 e4=>exact ⟨g', rfl, e3, e4⟩
  obtain ⟨g', rfl, e3, e4⟩:=hy
  refine .inl ⟨z, n, g', e1, a, c, h2, h3, h4, fun hc=>?_⟩
  obtain ⟨h6, h7, o, h8, h9⟩:=h5 hc
  exact ⟨h6, h7, o, h8, h9.deq e3 e4⟩
 ·have hsol:aG (bs'.getD k [])=true:=by
   unfold okB at hok
   cases hh:bQ (bs'.getD k []) with
   | false=>rw [hh, Bool.or_false] at hok; exact hok
   | true =>
    obtain ⟨_, _, _, _, e1⟩:=cR hh
    rw [e1] at d
    obtain ⟨x, g, e2, _⟩:=d.arr_inv
    rw [e2] at h1
    cases x <;> cases h1
  refine .inr ⟨hsol, c, e', h2, h3.trans d.1, fun j hj=>?_, h5⟩
  obtain ⟨h6, h7⟩:=h4 j (by rw [d.1]; exact hj)
  exact ⟨(d.2 j).rp0 h6, (d.2 j).pure h6 h7⟩
theorem aG2 {rs:List RV} {ps:List Nat} {vs':List D} {bs':List (List D)} {K:List D→List (List D)→Prop} (hK:K vs' bs'):∀ e s, RG rs ps vs' bs' e s→RP rs ps K e s:=by
 have key:∀ s:St, (l9 rs ps s fun vs=>cD s.hp ps fun bs=>nO vs vs' (q9 bs bs' True))→l9 rs ps s fun vs=>cD s.hp ps fun bs=>aAR K vs bs:=fun s hk =>
  uY (fun l hl=>iP (fun b hb=>⟨vs', bs', (dE hb).1, (eX (dE hb).2).1, hK⟩) hl) hk
 intro e s hk
 cases e with
 | normal=>exact key s hk
 | exit j=>exact hk.elim
 | ret=>exact key s hk
structure Gv (p:Prop):Prop where
 ok:p
theorem Gv.of {p q:Prop} (e:p=q) (h:q):Gv p:=⟨e.mpr h⟩
theorem fQ (hE : EnvOk P F E) (hft : ∀ f j, ag ft f = some j → F j = f) (hmix : P.follows .mixedOrders = true) {fn : Func} (hf : P.funcs[f]? = some fn) (hname : (fn.name == "runtime.NumGoroutine") = false) {α : Type} [Inhabited α] {kills : α → List iX} {cuts : α → List (Nat × Σ β : Type, β → Tm)} {af : α → AF}
  (ht:∀ a, trF P ft np (kills a) (cuts a) fn=some (af a)) {args:α→List D} {blks:α→List (List D)} {pre:α→Prop} {res:α→List D} {blks':α→List (List D)} (hn:∀ a, (args a).length=fn.params.size+fn.nfree) (hb:∀ a, (blks a).length=np)
  (hok:∀ a, pre a→Gv ((af a).gives E (args a) (blks a) (res a) (blks' a))):cM P F f (FnC args blks pre res blks'):=by
 refine ⟨(aD9 hE hft hmix hf hname (ht default)).enter, fun ds bs K K' hK hh=>?_, fun ds bs K hh=>?_, fun σ w ext vals ds bs K cp hh=>?_⟩
 ·obtain ⟨a, hh⟩:=hh
  exact ⟨a, d7 (gB (iF fun ⟨h1, h2⟩=>⟨h1, hK _ _ h2⟩)) hh⟩
 ·obtain ⟨a, hh⟩:=hh
  exact ⟨_, _, (eX (dE (b9 hh).2).2).2.2⟩
 ·obtain ⟨a, hh⟩:=hh
  obtain ⟨h1, h2⟩:=b9 hh
  obtain ⟨h3, h4⟩:=dE h2
  obtain ⟨h5, h6, h7⟩:=eX h4
  exact (aD9 hE hft hmix hf hname (ht a)).calls σ w ext vals _ _ K (cp.deq h3 h5 h1) ⟨hn a, hb a, dM hE.mf _ (aG2 h7) (hok a h6).ok⟩
theorem c8:EnvOk P F []:=fun j C h=>by simp [ag] at h
theorem aD4 {j:Nat} {C:aX} (h:COk P F (F j) C) (hE:EnvOk P F E):EnvOk P F ((j, C)::E):=fun i C' h'=>by
 simp only [ag] at h'
 cases hb:Nat.beq i j with
 | true =>
  rw [hb] at h'
  have:=Nat.eq_of_beq_eq_true hb
  subst this
  cases h'
  exact h
 | false =>
  rw [hb] at h'
  exact hE i C' h'
theorem cB {j:Nat} {C:aX} (h:cM P F (F j) C) (hE:EnvOk P F E):EnvOk P F ((j, C)::E):=aD4 (.inl h) hE
theorem aHQ {j:Nat} {C:aX} (h:aGK P F (F j) C) (hE:EnvOk P F E):EnvOk P F ((j, C)::E):=aD4 (.inr h) hE
theorem aGR {j : Nat} (hE : EnvOk P F E) (hft : ∀ f j, ag ft f = some j → F j = f) (hmix : P.follows .mixedOrders = true) {fn : Func} (hf : P.funcs[F j]? = some fn) (hname : (fn.name == "runtime.NumGoroutine") = false) {α : Type} [Inhabited α] {kills : α → List iX} {cuts : α → List (Nat × Σ β : Type, β → Tm)} {af : α → AF}
  (ht:∀ a, trF P ft np (kills a) (cuts a) fn=some (af a)) {args:α→List D} {blks:α→List (List D)} {pre:α→Prop} {res:α→List D} {blks':α→List (List D)} (mu:α→Nat) (hn:∀ a, (args a).length=fn.params.size+fn.nfree) (hb:∀ a, (blks a).length=np)
  {En:Nat→Env} (hEn:∀ n, En n=(j, FnC args blks (fun a=>pre a∧mu a < n) res blks')::E)
  (hok:∀ n a, pre a→mu a < n+1→Gv ((af a).gives (En n) (args a) (blks a) (res a) (blks' a))):cM P F (F j) (FnC args blks pre res blks'):=by
 have key:∀ n, cM P F (F j) (FnC args blks (fun a=>pre a∧mu a < n) res blks'):=by
  intro n
  induction n with
  | zero=>exact fQ hE hft hmix hf hname ht hn hb fun a h=>absurd h.2 (Nat.not_lt_zero _)
  | succ n ih=>exact fQ (hEn n ▸ cB ih hE) hft hmix hf hname ht hn hb fun a h=>hok n a h.1 h.2
 refine ⟨(key 0).enter, fun ds bs K K' hK hh=>?_, fun ds bs K hh=>?_, fun σ w ext vals ds bs K cp hh=>?_⟩
 ·obtain ⟨a, hh⟩:=hh
  exact ⟨a, d7 (gB (iF fun ⟨h1, h2⟩=>⟨h1, hK _ _ h2⟩)) hh⟩
 ·obtain ⟨a, hh⟩:=hh
  exact ⟨_, _, (eX (dE (b9 hh).2).2).2.2⟩
 ·obtain ⟨a, hh⟩:=hh
  exact (key (mu a+1)).calls σ w ext vals ds bs K cp ⟨a, d7 (gB (iF fun ⟨h1, h2⟩=>⟨⟨h1, Nat.lt_succ_self _⟩, h2⟩)) hh⟩
end
structure Codec (α:Type) where
 len:Nat
 enc:α→List D
 ok:α→Prop
 size:α→Nat
def yD:Codec Bool:=⟨1, fun b=>[.bool b], fun _=>True, fun _=>1⟩
def yB (k:IntKind):Codec Int:=⟨1, fun n=>[.int k n], fun n=>(Lit.int k n).wf=true, fun _=>1⟩
def yK:Codec UInt8:=⟨1, fun n=>[.int .u8 (n.toNat:Int)], fun _=>True, fun _=>1⟩
def aII:Codec UInt8:=yK
def aEV:Codec ByteArray:=⟨1, fun s=>[.str s], fun _=>True, fun s=>s.size+1⟩
def eJ {α:Type} [Inhabited α] (C:Codec α):Codec (List α):=⟨1, fun l=>[.slice .ro C.len l.length (gl C.enc l)], fun l=>∀ a∈l, C.ok a, fun l=>(l.map C.size).sum+1⟩
def bM {α β:Type} (C:Codec α) (D:Codec β):Codec (α×β):=⟨C.len+D.len, fun a=>C.enc a.1++D.enc a.2, fun a=>C.ok a.1∧D.ok a.2, fun a=>C.size a.1+D.size a.2⟩
def nH {α:Type} (C:Codec α):Codec α:=⟨C.len, C.enc, C.ok, fun a=>C.size a+1⟩
def σOf (w:World):Sg:=fun b o=>match w.heap[b]? with
 | some (.cells c _ _)=>match c[o]? with
  | some v=>if v.oneCell' then some v else none
  | none=>none
 | _=>none
structure aCY (H:Type) where
 one:DataW H→Nat
 all:List (DataW H)→Nat
 str:∀ bs, one (.lit (.string bs))=bs.length+1
 pos:∀ d, 1≤one d
 slice:∀ e s, one (.slice e s)=all e+all s+1
 agg:∀ ps, one (.agg ps)=all ps+1
 nil:all []=0
 cons:∀ d r, all (d::r)=one d+all r
structure Codec.Data {α:Type} (C:Codec α):Prop where
 len:∀ a, (C.enc a).length=C.len
 pure:∀ a, ∀ d∈C.enc a, d=d.pure1∧d≠.dead
structure fD {α:Type} (P:Program) (t:TypeId) (C:Codec α):Prop where
 data:C.Data
 cells:P.cellsOf t=C.len
 read:∀ {H:Type} (eH:TypeId×Value→H) (B:aCY H) (w:World) (base:Nat) (spare:Nat→Bool) (fuel:Nat) (cs:List Value) (x:DataW H×List MemPlace), DataW.trod eH P w base spare true fuel t cs=some x →
  ∃ a, C.ok a∧C.size a≤B.one x.1∧cs.length=C.len∧∀ j, j < C.len→Rp (σOf w) (cs.getD j undef) (nth (C.enc a) j .dead)
structure nL {α:Type} (P:Program) (l:List (TypeId×Nat)) (off:Nat) (C:Codec α):Prop where
 data:C.Data
 read:∀ {H:Type} (eH:TypeId×Value→H) (B:aCY H) (w:World) (base:Nat) (spare:Nat→Bool) (n:Nat) (cs:List Value) (xs:List (DataW H×List MemPlace)), xs.length=l.length →
  (∀ (i:Nat) (f:TypeId×Nat), l[i]? = some f→DataW.trod eH P w base spare true n f.1 ((cs.drop f.2).take (P.cellsOf f.1))=xs[i]?) →
  ∃ a, C.ok a∧C.size a≤B.all (xs.map (·.1))∧∀ j, j < C.len→Rp (σOf w) (cs.getD (off+j) undef) (nth (C.enc a) j .dead)
section
variable {P:Program} {t:TypeId} {α β:Type}
theorem Rp.oneCell {σ:Sg} {v:Value} {d:D} (h:Rp σ v d) (hd:d≠.dead):v.oneCell'=true:=by
 cases h <;> first | rfl | exact absurd rfl hd
theorem Codec.Data.nth {C:Codec α} (h:C.Data) (a:α) {j:Nat} (hj:j < C.len):nth (C.enc a) j .dead=(Abs.nth (C.enc a) j .dead).pure1∧Abs.nth (C.enc a) j .dead≠.dead:=by
 have hj':j < (C.enc a).length:=by rw [h.len]; exact hj
 rw [cY _ _ hj']
 exact h.pure a _ (List.getElem_mem hj')
theorem aB7:yD.Data:=⟨fun _=>rfl, fun a d h=>by simp [yD] at h; subst h; exact ⟨rfl, fun h=>by cases h⟩⟩
theorem aDO (k:IntKind):(yB k).Data:=⟨fun _=>rfl, fun a d h=>by simp [yB] at h; subst h; exact ⟨rfl, fun h=>by cases h⟩⟩
theorem aCT:yK.Data:=⟨fun _=>rfl, fun a d h=>by simp [yK] at h; subst h; exact ⟨rfl, fun h=>by cases h⟩⟩
theorem aDX:aEV.Data:=⟨fun _=>rfl, fun a d h=>by simp [aEV] at h; subst h; exact ⟨rfl, fun h=>by cases h⟩⟩
theorem aAH [Inhabited α] (C:Codec α):(eJ C).Data:=⟨fun _=>rfl, fun a d h=>by simp [eJ] at h; subst h; exact ⟨rfl, fun h=>by cases h⟩⟩
theorem aC6 {C:Codec α} {D:Codec β} (h:C.Data) (k:D.Data):(bM C D).Data:=⟨fun a=>by simp [bM, h.len, k.len], fun a d hd=>by
 simp only [bM, List.mem_append] at hd
 rcases hd with hd | hd
 ·exact h.pure _ _ hd
 ·exact k.pure _ _ hd⟩
theorem yY {C:Codec α} (h:C.Data):(nH C).Data:=⟨h.len, h.pure⟩
theorem aGY (ht:P.underlying t=some .bool) (hc:P.cellsOf t=1):fD P t yD:=⟨aB7, hc, fun eH B w base spare fuel cs x h=>by
 obtain ⟨b, rfl, rfl⟩:=DataW.trod_bool ht h
 refine ⟨b, trivial, B.pos _, rfl, fun j hj=>?_⟩
 have:j=0:=by simp only [yD] at hj; omega
 subst this
 exact .bool b⟩
theorem aCI {k:IntKind} (ht:P.underlying t=some (.int k)) (hc:P.cellsOf t=1):fD P t (yB k):=⟨aDO k, hc, fun eH B w base spare fuel cs x h=>by
 obtain ⟨n, rfl, rfl, hw⟩:=DataW.trod_int ht h
 refine ⟨n, hw, B.pos _, rfl, fun j hj=>?_⟩
 have:j=0:=by simp only [yB] at hj; omega
 subst this
 exact .int k n⟩
theorem aGI (ht:P.underlying t=some (.int .u8)) (hc:P.cellsOf t=1):fD P t yK:=⟨aCT, hc, fun eH B w base spare fuel cs x h=>by
 obtain ⟨n, rfl, rfl, hw⟩:=DataW.trod_int ht h
 have hb:0≤n∧n≤255:=by
  simp [Lit.wf, IntKind.min, IntKind.max, IntKind.signed, IntKind.bits] at hw
  omega
 refine ⟨UInt8.ofNat n.toNat, trivial, B.pos _, rfl, fun j hj=>?_⟩
 have:j=0:=by simp only [yK] at hj; omega
 subst this
 have e:((UInt8.ofNat n.toNat).toNat:Int)=n:=by rw [UInt8.toNat_ofNat']; omega
 show Rp (σOf w) (.int .u8 n) (.int .u8 ((UInt8.ofNat n.toNat).toNat:Int))
 rw [e]
 exact .int .u8 n⟩
theorem aCK (ht:P.underlying t=some .string) (hc:P.cellsOf t=1):fD P t aEV:=⟨aDX, hc, fun eH B w base spare fuel cs x h=>by
 obtain ⟨s, rfl, rfl, hw⟩:=DataW.trod_string ht h
 refine ⟨s, trivial, ?_, rfl, fun j hj=>?_⟩
 ·rw [B.str, Array.length_toList]
  exact Nat.le_refl _
 ·have:j=0:=by simp only [aEV] at hj; omega
  subst this
  exact .str s⟩
theorem zQ {a:Addr} (h:a.spot=none) (n:Nat):a.add n=⟨a.block, a.off+n, none⟩:=by
 unfold Addr.add
 cases a
 simp only at h
 subst h
 split
 ·rename_i h; subst h; rfl
 ·rfl
theorem zS {p:Nat→α→Prop} [Inhabited α] (n:Nat) (h:∀ i, i < n→∃ a, p i a):∃ l:List α, l.length=n∧∀ i, i < n→p i (l.getD i default):=by
 induction n with
 | zero=>exact ⟨[], rfl, fun i hi=>by omega⟩
 | succ n ih =>
  obtain ⟨l, h1, h2⟩:=ih fun i hi=>h i (by omega)
  obtain ⟨a, ha⟩:=h n (by omega)
  refine ⟨l++[a], by simp [h1], fun i hi=>?_⟩
  rcases Nat.lt_or_ge i n with h3 | h3
  ·have:=h2 i h3
   rw [List.getD_eq_getElem?_getD] at this ⊢
   rw [List.getElem?_append_left (by omega)]
   exact this
  ·have:i=n:=by omega
   subst this
   rw [List.getD_eq_getElem?_getD, List.getElem?_append_right (by omega)]
   simp only [h1, Nat.sub_self, List.getElem?_cons_zero, Option.getD_some]
   exact ha
theorem aB5 {w:World} {b o:Nat} {v:Value} (h:w.cell? ⟨b, o, none⟩=some v) (h1:v.oneCell'=true):σOf w b o=some v:=by
 unfold World.cell? at h
 unfold σOf
 simp only at h
 split at h
 ·rename_i c e fz hh
  simp only [Option.isSome_none, Bool.false_eq_true, if_false] at h
  rw [hh]
  simp only [h, h1, if_true]
 ·cases h
theorem aBW {H:Type} (B:aCY H) {C:Codec α} [Inhabited α]:∀ (l:List α) (xs:List (DataW H×List MemPlace)), l.length=xs.length→(∀ i, i < l.length→∃ x, xs[i]? = some x∧C.size (l.getD i default)≤B.one x.1)→(l.map C.size).sum≤B.all (xs.map (·.1))
 | [], [], _, _=>by simp [B.nil]
 | [], _::_, h, _=>by simp at h
 | _::_, [], h, _=>by simp at h
 | a::l, x::xs, hl, h=>by
  have h0:=h 0 (by simp)
  obtain ⟨y, hy, h0⟩:=h0
  simp only [List.getElem?_cons_zero, Option.some.injEq] at hy
  subst hy
  have ih:=aBW B (C:=C) l xs (by simpa using hl) fun i hi=>by
   obtain ⟨x, h1, h2⟩:=h (i+1) (by simpa using hi)
   exact ⟨x, by simpa using h1, by simpa using h2⟩
  simp only [List.map_cons, List.sum_cons, B.cons]
  have h0':C.size a≤B.one x.1:=by simpa using h0
  omega
theorem qU [Inhabited α] {e:TypeId} {C:Codec α} (ht:P.underlying t=some (.slice e)) (hc:P.cellsOf t=1) (he:fD P e C) (hp:0 < C.len):fD P t (eJ C):=⟨aAH C, hc, fun eH B w base spare fuel cs x h=>by
 rcases DataW.trod_slice ht h with ⟨rfl, rfl⟩ | ⟨a, len, cap, elems, rest, n, _, rfl, rfl, _, hlc, _, hlen, hel, _, _⟩
 ·refine ⟨[], fun a ha=>by simp at ha, by simpa [eJ] using B.pos _, rfl, fun j hj=>?_⟩
  have:j=0:=by simp only [eJ] at hj; omega
  subst this
  exact .slice none 0 0 .ro C.len (gl C.enc []) 0 0 (fun _ _=>undef) (Nat.le_refl _) (fun h=>absurd rfl h) (fun i hi=>by omega) (fun i j hi=>by omega) (fun i j hi=>by omega)
 ·have hspot0:0 < len→a.spot=none:=fun hi=>by
   have h1:=hel 0 hi
   have h2:elems[0]? = some elems[0]:=List.getElem?_eq_getElem (by omega)
   rw [h2, Option.bind_eq_some_iff] at h1
   obtain ⟨cs', h3, h4⟩:=h1
   obtain ⟨_, _, _, h7, _⟩:=he.read eH B w base spare n cs' _ h4
   have:=(World.cells?_some h3).2.2 0 (by rw [he.cells]; exact hp)
   rw [Nat.zero_mul, List.getElem?_eq_getElem (by omega)] at this
   unfold World.cell? Addr.add at this
   simp only [if_true] at this
   split at this
   ·cases hs:a.spot with
    | none=>rfl
    | some s=>simp [hs] at this
   ·cases this
  have each:∀ i, i < len→∃ b:α, C.ok b∧(∃ x, elems[i]? = some x∧C.size b≤B.one x.1)∧a.spot=none∧∀ j, j < C.len→∃ v, w.cell? ⟨a.block, a.off+i * C.len+j, none⟩=some v∧Rp (σOf w) v (nth (C.enc b) j .dead):=by
   intro i hi
   have hspot:=hspot0 (by omega)
   have h1:=hel i hi
   have h2:elems[i]? = some elems[i]:=List.getElem?_eq_getElem (by omega)
   rw [h2, Option.bind_eq_some_iff] at h1
   obtain ⟨cs', h3, h4⟩:=h1
   obtain ⟨b, h5, h6, h7, h8⟩:=he.read eH B w base spare n cs' _ h4
   rw [he.cells, zQ hspot] at h3
   have h9:∀ j, j < C.len→w.cell? ⟨a.block, a.off+i * C.len+j, none⟩=cs'[j]?:=by
    intro j hj
    have:=(World.cells?_some h3).2.2 j hj
    rw [zQ (by rfl)] at this
    exact this
   refine ⟨b, h5, ⟨_, h2, h6⟩, hspot, fun j hj=>⟨cs'.getD j undef, ?_, h8 j hj⟩⟩
   have:=h9 j hj
   rw [this, List.getD_eq_getElem?_getD, List.getElem?_eq_getElem (by omega)]
   rfl
  obtain ⟨l, h1, h2⟩:=zS len each
  refine ⟨l, fun b hb=>?_, ?_, rfl, fun j hj=>?_⟩
  ·obtain ⟨i, hi, rfl⟩:=List.mem_iff_getElem.1 hb
   have:=(h2 i (by omega)).1
   rw [List.getD_eq_getElem?_getD, List.getElem?_eq_getElem hi] at this
   exact this
  ·have:=aBW B (C:=C) l elems (by omega) fun i hi=>(h2 i (by omega)).2.1
   simp only [eJ, B.slice]
   omega
  ·have:j=0:=by simp only [eJ] at hj; omega
   subst this
   have hd:∀ i, i < len→(gl C.enc l i).length=C.len:=fun i _=>he.data.len _
   simp only [eJ, nth, h1]
   have ex:∀ i j, ∃ v, i < len→j < C.len→w.cell? ⟨a.block, a.off+i * C.len+j, none⟩=some v∧Rp (σOf w) v (nth (C.enc (l.getD i default)) j .dead):=by
    intro i j
    by_cases hi:i < len
    ·by_cases hj:j < C.len
     ·obtain ⟨v, hv⟩:=(h2 i hi).2.2.2 j hj
      exact ⟨v, fun _ _=>hv⟩
     ·exact ⟨undef, fun _ h=>absurd h hj⟩
    ·exact ⟨undef, fun h _=>absurd h hi⟩
   let val:Nat→Nat→Value:=fun i j=>Classical.choose (ex i j)
   have hval:∀ i j, i < len→j < C.len→w.cell? ⟨a.block, a.off+i * C.len+j, none⟩=some (val i j)∧Rp (σOf w) (val i j) (nth (C.enc (l.getD i default)) j .dead):=fun i j=>Classical.choose_spec (ex i j)
   refine .slice (some a) len cap .ro C.len (gl C.enc l) a.block a.off val hlc (fun hn=>?_) hd (fun i j hi hj=>?_) (fun i j hi hj=>?_)
   ·have:=(h2 0 (by omega)).2.2.1
    cases a
    simp only at this
    subst this
    rfl
   ·obtain ⟨e1, e2⟩:=hval i j hi hj
    exact aB5 e1 (e2.oneCell (he.data.nth _ hj).2)
   ·exact (hval i j hi hj).2.pure1⟩
theorem mU {C:Codec α} {off:Nat} (h:fD P t C):nL P [(t, off)] off C:=⟨h.data, fun eH B w base spare n cs xs hl hx=>by
 match xs, hl with
 | [x], _ =>
  have h0:=hx 0 _ rfl
  simp only [List.getElem?_cons_zero] at h0
  obtain ⟨a, h1, h2, h3, h4⟩:=h.read eH B w base spare n _ x h0
  refine ⟨a, h1, by simp only [List.map_cons, List.map_nil, B.cons, B.nil]; omega, fun j hj=>?_⟩
  have:=h4 j hj
  simpa [List.getD_eq_getElem?_getD, List.getElem?_take, List.getElem?_drop, h.cells, hj] using this⟩
theorem cF {C:Codec α} {D:Codec β} {l:List (TypeId×Nat)} {off:Nat} (h:fD P t C) (k:nL P l (off+C.len) D):nL P ((t, off)::l) off (bM C D):=⟨aC6 h.data k.data, fun eH B w base spare n cs xs hl hx=>by
 match xs, hl with
 | x::xs, hl =>
  have h0:=hx 0 _ rfl
  simp only [List.getElem?_cons_zero] at h0
  obtain ⟨a, h1, h2, h3, h4⟩:=h.read eH B w base spare n _ x h0
  obtain ⟨b, k1, k2, k3⟩:=k.read eH B w base spare n cs xs (by simpa using hl) fun i f hf=>by simpa using hx (i+1) f (by simpa using hf)
  refine ⟨(a, b), ⟨h1, k1⟩, by simp only [bM, List.map_cons, B.cons]; omega, fun j hj=>?_⟩
  simp only [bM] at hj ⊢
  rw [iC, h.data.len]
  split
  ·rename_i hlt
   have:=h4 j hlt
   simpa [List.getD_eq_getElem?_getD, List.getElem?_take, List.getElem?_drop, h.cells, hlt] using this
  ·rename_i hge
   have:=k3 (j - C.len) (by omega)
   rw [show off+C.len+(j - C.len)=off+j from by omega] at this
   exact this⟩
theorem kA {C:Codec α} {fs:Array Field} (ht:P.underlying t=some (.struct fs)) (hc:P.cellsOf t=C.len) (h:nL P (fs.toList.map fun f=>(f.type, f.offset)) 0 C):fD P t (nH C):=⟨yY h.data, hc, fun eH B w base spare fuel cs x hx=>by
 obtain ⟨xs, n, rfl, rfl, hl, hlen, hf⟩:=DataW.trod_struct ht hx
 obtain ⟨a, h1, h2, h3⟩:=h.read eH B w base spare n cs xs (by simp [hlen]) fun i f hi=>by
  simp only [List.getElem?_map, Option.map_eq_some_iff] at hi
  obtain ⟨g, hg, rfl⟩:=hi
  exact hf i g (by rw [← Array.getElem?_toList]; exact hg)
 refine ⟨a, h1, by simp only [nH, B.agg]; omega, by rw [hl, hc]; rfl, fun j hj=>?_⟩
 have:=h3 j hj
 rw [Nat.zero_add] at this
 exact this⟩
theorem zM {C:Codec α} {m:Nat} {e:TypeId} (ht:P.underlying t=some (.array m e)) (hc:P.cellsOf t=C.len) (h:nL P ((List.range m).map fun i=>(e, i * P.cellsOf e)) 0 C):fD P t (nH C):=⟨yY h.data, hc, fun eH B w base spare fuel cs x hx=>by
 obtain ⟨xs, n, rfl, rfl, hl, hlen, hf⟩:=DataW.trod_array ht hx
 obtain ⟨a, h1, h2, h3⟩:=h.read eH B w base spare n cs xs (by simp [hlen]) fun i f hi=>by
  simp only [List.getElem?_map, Option.map_eq_some_iff] at hi
  obtain ⟨g, hg, rfl⟩:=hi
  have hlt:=(List.getElem?_eq_some_iff.1 hg).1
  simp only [List.length_range] at hlt
  have:g=i:=by simpa [hlt] using hg.symm
  subst this
  exact hf g hlt
 refine ⟨a, h1, by simp only [nH, B.agg]; omega, by rw [hl, hc]; rfl, fun j hj=>?_⟩
 have:=h3 j hj
 rw [Nat.zero_add] at this
 exact this⟩
def PureV:D→Prop
 | .agg l=>∀ e∈l, e=e.pure1
 | d=>d=d.pure1
theorem PureV.names {d:D} (h:PureV d) (lo hi:Nat):d.names lo hi=false:=by
 cases d with
 | agg l=>exact aR.2 fun e he=>by rw [h e he]; exact dP _
 | tup l=>cases h
 | slice t z n g=>cases t <;> first | rfl | cases h
 | ptr i o=>cases h
 | mref i=>cases h
 | msl i z n=>cases h
 | rptr i z n e o=>cases h
 | _=>rfl
theorem sG {d:D} {k:Prop} (h:d=d.pure1) (hk:k):d5 d d k:=by
 cases d with
 | int kd n =>
  have:jO kd kd=true:=by cases kd <;> rfl
  show Br (jO kd kd) (n=n∧k) False
  rw [this]
  exact ⟨rfl, hk⟩
 | bool b=>exact ⟨rfl, hk⟩
 | str s=>exact ⟨rfl, hk⟩
 | slice t z n g =>
  cases t with
  | ro =>
   have:Nat.beq z z=true:=Nat.beq_refl z
   show Br (true&&Nat.beq z z) (n=n∧(∀ i, i < n→DEqs (g i) (g i))∧k) False
   rw [this]
   exact ⟨rfl, fun i _=>DEqs.refl _, hk⟩
  | full=>cases h
  | own i=>cases h
 | nilp=>exact hk
 | dead=>exact hk
 | ubool=>cases h
 | agg l=>cases h
 | tup l=>cases h
 | ptr i o=>cases h
 | eptr l=>cases h
 | fn f l=>cases h
 | mp=>cases h
 | mref=>cases h
 | newp=>cases h
 | arr=>cases h
 | msl=>cases h
 | rptr=>cases h
theorem rC:∀ {l:List D} {k:Prop}, (∀ d∈l, d=d.pure1)→k→lL l l k
 | [], _, _, hk=>hk
 | d::l, _, h, hk=>sG (h d (by simp)) (rC (fun e he=>h e (by simp [he])) hk)
theorem aC2 {d:D} {k:Prop} (h:PureV d) (hk:k):aDG d d k:=by
 cases d with
 | agg l=>exact rC h hk
 | _=>exact sG h hk
theorem s5:∀ {l:List D} {k:Prop}, (∀ d∈l, PureV d)→k→nO l l k
 | [], _, _, hk=>hk
 | d::l, _, h, hk=>aC2 (h d (by simp)) (s5 (fun e he=>h e (by simp [he])) hk)
structure aB8 {α:Type} (P:Program) (ts:List TypeId) (C:α→List D) (ok:α→Prop) (size:α→Nat):Prop where
 len:∀ a, (C a).length=ts.length
 pure:∀ a, ∀ d∈C a, PureV d
 read:∀ {H:Type} (eH:TypeId×Value→H) (B:aCY H) (w:World) (base b0:Nat) (spare:Nat→Bool) (r:Reach) (vs:List Value) (ds:List (DataW H)) (ps:List MemPlace), DataW.TrodAll eH P w base spare true ts vs ds ps →
  (∀ (j:Nat) t v, ts[j]? = some t→vs[j]? = some v→Value.okWide P w r b0 t v) →
  ∃ a, ok a∧size a≤B.all ds∧vs.length=ts.length∧ds.length=ts.length∧∀ F (G:Gh) tk, G.σ=σOf w→∀ j, j < ts.length→Rd F G tk (vs.getD j undef) (nth (C a) j .dead)
theorem aEX:aB8 P [] (fun _:Unit=>[]) (fun _=>True) (fun _=>0):=⟨fun _=>rfl, fun _ d h=>by simp at h, fun eH B w base b0 spare r vs ds ps h _=>by
 cases vs with
 | cons=>cases ds <;> exact h.elim
 | nil =>
  cases ds with
  | cons=>exact h.elim
  | nil=>exact ⟨(), trivial, Nat.zero_le _, rfl, rfl, fun F G tk _ j hj=>by simp at hj⟩⟩
theorem t9 {w:World} {r:Reach} {b0:Nat} {v:Value} (hg:bG P t=some true) (h:Value.okWide P w r b0 t v):∃ cs, v=.agg cs:=by
 unfold bG at hg
 unfold Value.okWide at h
 split at h
 ·obtain ⟨cs, h1, _⟩:=h; exact ⟨cs, h1⟩
 ·obtain ⟨cs, h1, _⟩:=h; exact ⟨cs, h1⟩
 ·rename_i h1 h2
  split at hg
  ·rename_i fs h3; exact absurd h3 (h1 fs)
  ·rename_i n e h3; exact absurd h3 (h2 n e)
  ·cases hg
  ·cases hg
theorem uF {w:World} {r:Reach} {b0:Nat} {v:Value} (hg:bG P t=some false) (h:Value.okWide P w r b0 t v):∀ cs, v≠.agg cs:=by
 intro cs hv
 subst hv
 unfold bG at hg
 unfold Value.okWide at h
 split at h
 ·rename_i fs h3; rw [h3] at hg; cases hg
 ·rename_i n e h3; rw [h3] at hg; cases hg
 ·unfold Cell.okWide at h
  split at h <;> try simp_all
  unfold Cell.ok at h
  split at h <;> simp_all
theorem aB6 {β:Type} {C:Codec α} {ts:List TypeId} {A:β→List D} {ok:β→Prop} {size:β→Nat} {g:Bool} (hg:bG P t=some g) (h:fD P t C) (hl:g=true∨C.len=1) (k:aB8 P ts A ok size) :
  aB8 P (t::ts) (fun x:α×β=>mkv g (C.enc x.1)::A x.2) (fun x=>C.ok x.1∧ok x.2) (fun x=>C.size x.1+size x.2):=by
 refine ⟨fun x=>by simp [k.len], fun x d hd=>?_, fun eH B w base b0 spare r vs ds ps ht hok=>?_⟩
 ·simp only [List.mem_cons] at hd
  rcases hd with rfl | hd
  ·cases g with
   | true=>exact fun e he=>(h.data.pure _ e he).1
   | false =>
    have hl : C.len = 1 := by rcases hl with h | h; · cases h
                              ·exact h
    have:=(h.data.nth x.1 (j:=0) (by omega)).1
    show PureV (nth (C.enc x.1) 0 .dead)
    generalize nth (C.enc x.1) 0 .dead=e at this
    cases e <;> first | exact this | cases this
  ·exact k.pure _ d hd
 ·cases vs with
  | nil=>cases ds <;> exact ht.elim
  | cons v vs =>
   cases ds with
   | nil=>exact ht.elim
   | cons d ds =>
    obtain ⟨p, q, h1, h2, rfl⟩:=ht
    obtain ⟨fuel, h1⟩:=h1
    obtain ⟨a, a1, a2, a3, a4⟩:=h.read eH B w base spare fuel _ _ h1
    obtain ⟨b, b1, b2, b3, b4, b5⟩:=k.read eH B w base b0 spare r vs ds q h2 fun j t' v' hj hv=>hok (j+1) t' v' (by simpa using hj) (by simpa using hv)
    refine ⟨(a, b), ⟨a1, b1⟩, by have a2':C.size a≤B.one d:=a2; simp only [B.cons]; omega, by simp [b3], by simp [b4], fun F G tk hσ j hj=>?_⟩
    cases j with
    | succ j=>simpa [nth] using b5 F G tk hσ j (by simpa using hj)
    | zero =>
     have hv:=hok 0 t v rfl rfl
     have cell:∀ j, j < C.len→Rc F G tk (v.cells.toList.getD j undef) (nth (C.enc a) j .dead):=fun j hj=>by
      refine .pure (hσ ▸ a4 j hj) ?_
      rw [(h.data.nth a hj).1]
      exact bU _ _
     cases g with
     | true =>
      obtain ⟨cs, rfl⟩:=t9 hg hv
      refine .any (.agg cs _ ?_ fun j hj=>?_)
      ·rw [h.data.len, ← a3]; simp [Value.cells]
      ·have hj':j < C.len:=by rw [← h.data.len a]; exact hj
       have:=cell j hj'
       simpa [Value.cells, Array.getD_eq_getD_getElem?, List.getD_eq_getElem?_getD] using this
     | false =>
      have hl : C.len = 1 := by rcases hl with h | h; · cases h
                                ·exact h
      have h0:=uF hg hv
      have:=cell 0 (by omega)
      have e:v.cells.toList.getD 0 undef=v:=by
       cases v <;> first | rfl | exact absurd rfl (h0 _)
      rw [e] at this
      exact .any (.cell this)
theorem aDQ {C:Codec α} {g:Bool} (hg:bG P t=some g) (h:fD P t C) (hl:g=true∨C.len=1):aB8 P [t] (fun x:α=>[mkv g (C.enc x)]) C.ok C.size:=by
 have k:=aB6 hg h hl (aEX (P:=P))
 refine ⟨fun x=>rfl, fun x d hd=>k.pure (x, ()) d hd, fun eH B w base b0 spare r vs ds ps ht hok=>?_⟩
 obtain ⟨a, h1, h2, h3, h4, h5⟩:=k.read eH B w base b0 spare r vs ds ps ht hok
 exact ⟨a.1, h1.1, by have h2':C.size a.1+0≤B.all ds:=h2; omega, h3, h4, h5⟩
end
end Go.Abs
namespace Go.Abs
open Go Go.RowKit Go.ChangeShapes
theorem aG3 {ft:FT} {F:Nat→FuncId} (h:(ft.all fun x=>Nat.beq (F x.2) x.1)=true):∀ f j, ag ft f=some j→F j=f:=fun f j hj =>
 Nat.eq_of_beq_eq_true (List.all_eq_true.1 h (f, j) (lW hj))
section
variable {H:Type} {eH:TypeId×Value→H} {P:Program}
theorem nI {W W':World} (hl:laidOutB P=true) (hb:Below W.heap.size W W'):∀ {ts:List TypeId} {vs:List Value} {ds:List (DataW H)} {ps:List MemPlace}, (∀ t∈ts, P.readableRec t=true∧t < P.types.size) →
  DataW.TrodAll eH P W 0 (fun _=>true) true ts vs ds ps→DataW.TrodAll eH P W' 0 (fun b=>decide (b < W.heap.size)) true ts vs ds ps
 | [], [], [], _, _, h=>h
 | t::ts, v::vs, d::ds, _, hr, ⟨p, q, h1, h2, h3⟩ =>
  ⟨p, q, Below.trod hl (hr t (by simp)).1 (hr t (by simp)).2 h1 hb (by obtain ⟨m, hm⟩:=h1; exact DataW.trod_lt m _ _ _ hm), nI hl hb (fun t ht=>hr t (by simp [ht])) h2, h3⟩
 | [], _::_, _, _, _, h=>h.elim
 | [], [], _::_, _, _, h=>h.elim
 | _::_, [], _, _, _, h=>h.elim
 | _::_, _::_, [], _, _, h=>h.elim
theorem w3 (B:aCY H) {fn:Func} {f:FuncId} {F:Nat→FuncId} {α:Type} {A:α→List D} {ok pre:α→Prop} {size:α→Nat} {N:Nat} (hs:cM P F f (FnC A noB pre (fun _=>[.bool true]) noB))
  (hA:aB8 P fn.params.toList A ok size) (hpre:∀ a, ok a→size a≤N→pre a) (hlaid:laidOutB P=true) (hread:∀ t∈fn.params.toList, P.readableRec t=true∧t < P.types.size) {rt:TypeId} (hres:fn.resultTypes=#[rt]) (hrt:P.underlying rt=some .bool)
  {s:ChangeSpec} (hv:s.vars=[]) (hfn:∀ ds:List (DataW H), ds.length=fn.params.toList.length→s.fn H ds={ results:=[.lit (.bool true)], args:=ds }) {W:World} {base:Nat} {args:Array Value} {ds gs:List (DataW H)} {before:List MemPlace}
  (hval:∀ (j:Nat) t v, fn.params[j]? = some t→args[j]? = some v→Value.okWide P W .any base t v) (hW:DataW.Whole eH P fn.params.toList s.vars false W args.toList ds gs before) (hk:B.all (ds++gs)≤N) :
  Calls P f args W fun e W'=>∃ v, e=.returned v∧s.post eH P fn false true false false W args v W':=by
 have hW':=hW
 obtain ⟨p, q, hA0, hV, rfl, hfz, hnd⟩:=hW
 rw [hv] at hV
 obtain ⟨rfl, rfl⟩:=trodVars_none hV
 rw [List.append_nil] at hk
 obtain ⟨a, a1, a2, a3, a4, a5⟩:=hA.read eH B W 0 base (fun _=>true) .any args.toList ds p hA0 fun j t v hj hv=>hval j t v (by rw [← Array.getElem?_toList]; exact hj) (by rw [← Array.getElem?_toList]; exact hv)
 have cp:CPre F ⟨σOf W, fun _ _=>none⟩ W [] args (A a) []:=by
  refine ⟨fun b o v h=>?_, by rw [← Array.length_toList, a3, hA.len], fun j hj=>?_, fun j hj h=>?_, rfl, List.nodup_nil, fun k hk=>by simp at hk⟩
  ·have h:σOf W b o=some v:=h
   unfold σOf at h
   split at h
   ·rename_i c e fz hh
    split at h
    ·rename_i u hu
     split at h
     ·rename_i h1
      cases h
      exact ⟨h1, c, e, fz, hh, hu⟩
     ·cases h
    ·cases h
   ·cases h
  ·have:=a5 F (G0 ⟨σOf W, fun _ _=>none⟩ []) (fun _=>none) rfl j (by rw [← hA.len a]; exact hj)
   simpa [Array.getD_eq_getD_getElem?, List.getD_eq_getElem?_getD] using this
  ·rw [cY _ _ hj]
   exact (hA.pure a _ (List.getElem_mem hj)).names _ _
 have hfnK:FnC A noB pre (fun _=>[.bool true]) noB (A a) [] (fun rs _=>rs=[.bool true]):=⟨a, s5 (hA.pure a) ⟨hpre a a1 (by omega), rfl⟩⟩
 refine (hs.calls ⟨σOf W, fun _ _=>none⟩ W [] args (A a) [] _ cp hfnK).mono fun e W' ⟨vs, rs, bs', σ', he, hrs, hp⟩=>?_
 subst hrs
 have h1:vs.size=1:=hp.size
 have h2:=hp.res 0 (by simp)
 have h3:vs[0]'(by omega)=.bool true:=by
  have h4:Rp σ' (vs.getD 0 undef) (.bool true):=h2
  rw [Array.getD_eq_getD_getElem?, Array.getElem?_eq_getElem (by omega)] at h4
  simp only [Option.getD_some] at h4
  generalize vs[0]'(by omega)=v at h4 ⊢
  cases h4
  rfl
 have h5:fL vs=.bool true:=by
  unfold fL
  rw [dif_pos h1, h3]
 rw [h5] at he
 subst he
 have bel:Below W.heap.size W W':=⟨hp.os, hp.tape, hp.output, hp.base, fun k hk=>hp.keep k hk (by simp)⟩
 have hds:=hfn ds a4
 refine ⟨.bool true, rfl, ds, [], p++[], [], p, [], hW', ?_, ?_, ?_, bel.frame _, fun h=>by cases h⟩
 ·rw [List.append_nil, hds, hres]
  exact trodAll_mk1 (shut_bool hrt _)
 ·rw [List.append_nil, hds]
  exact nI hlaid bel hread hA0
 ·rw [List.append_nil, hds, hv]
  exact rfl
end
section
variable {P:Program} {F:Nat→FuncId}
theorem CPost.same {σ:Og} {w:World} {ext:List Nat} {vals:Array Value} {ds:List D} (h:CPre F σ w ext vals ds []) {v:Value} {d:D} (hr:Rp σ v d.pure1) (hd:∀ l, d≠.agg l) (ht:∀ q z n g, d≠.slice (.own q) z n g) (hn:∀ l, d≠.newp l):CPost σ w ext w σ.σ [d] [] #[v]:=by
 refine ⟨h.stab, SgLe.refl _, fun _ _ _=>rfl, rfl, rfl, rfl, Nat.le_refl _, fun _ _ _=>rfl, fun k f z n g hk=>by simp at hk, fun k hk=>by simp at hk, rfl, fun j hj=>?_, fun i j b hi hj _ _=>?_⟩
 ·have:j=0:=by simpa using hj
  subst this
  show rJ σ w w.heap.size v d
  cases d with
  | agg l=>exact absurd rfl (hd l)
  | slice t z n g=>cases t with
   | own q=>exact absurd rfl (ht q z n g)
   | _=>exact hr
  | newp l=>exact absurd rfl (hn l)
  | _=>exact hr
 ·simp at hi hj
  omega
def ixB (a:ByteArray×Int):Int:=Lib.indexByte a.1.data.toList a.2.toNat.toUInt8
theorem aE2 {f : FuncId} {fn : Func} (hf : P.funcs[f]? = some fn) (hname : (fn.name == "runtime.NumGoroutine") = false) (hb : fn.body.isNone = true) (hn : Extern.findNext fn = none) (he : Extern.find fn = some Extern.BytealgIndexByte.indexByte)
  {pre:ByteArray×Int→Prop}:aGK P F f (FnC (fun a=>[.str a.1, .int .u8 a.2]) (fun _=>[]) pre (fun a=>[.int .i64 (ixB a)]) (fun _=>[])):=by
 refine ⟨fun ds bs K K' hK hh=>?_, fun ds bs K hh=>?_, fun σ w ext vals ds bs K cp hh=>?_⟩
 ·obtain ⟨a, hh⟩:=hh
  exact ⟨a, d7 (gB (iF fun ⟨h1, h2⟩=>⟨h1, hK _ _ h2⟩)) hh⟩
 ·obtain ⟨a, hh⟩:=hh
  exact ⟨_, _, (eX (dE (b9 hh).2).2).2.2⟩
 ·obtain ⟨a, hh⟩:=hh
  obtain ⟨h1, h2⟩:=b9 hh
  obtain ⟨h3, h4⟩:=dE h2
  obtain ⟨h5, h6, h7⟩:=eX h4
  have cp':=cp.deq h3 h5 h1
  obtain ⟨s, c⟩:=a
  have e0:=(cp'.args 0 (by simp)).str_inv
  have e1:=(cp'.args 1 (by simp)).int_inv
  have hv:vals=#[.string s, .int .u8 c]:=by
   apply Array.ext
   ·exact cp'.size
   ·intro i hi1 hi2
    have:i=0∨i=1:=by simp at hi2; omega
    rcases this with rfl | rfl
    ·simpa [Array.getD_eq_getD_getElem?, hi1] using e0
    ·simpa [Array.getD_eq_getD_getElem?, hi1] using e1
  subst hv
  refine ⟨w, #[.int .i64 (ixB (s, c))], _, _, σ.σ, ?_, h7, CPost.same cp' (.int _ _) (fun _=>by simp) (fun _ _ _ _=>by simp) (fun _=>by simp)⟩
  rw [run_callFunc_extern hf hname hb hn he, Lib.run_indexByteString]
  rfl
end
end Go.Abs
