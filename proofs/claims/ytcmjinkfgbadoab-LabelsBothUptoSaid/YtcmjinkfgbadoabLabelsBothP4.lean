/- The abstract machine and its soundness. -/
import Derived.Carry
import Derived.Lib.Bytealg
import Derived.Shelf.SlIter.Nil
import Derived.Shelf.SortM.Plain
import Derived.Shelf.SortM.SortNone
import Derived.Test.YtcmjinkfgbadoabLabelsBothP3
set_option linter.unusedVariables false
set_option linter.unusedSimpArgs false
set_option linter.unusedSectionVars false
namespace Go.Abs
open Go Go.RowKit Go.ChangeShapes
theorem aLO {P:Program} {ft:FT} {F:Nat→FuncId} (h:(ft.all fun x=>Nat.beq (F x.2) x.1&&Nat.blt x.2 1000000000)=true):pC P F ft:=by
 have key:∀ f j,ag ft f=some j→F j=f∧j < 1000000000:=fun f j hj=>by
  have:=List.all_eq_true.1 h (f,j) (m6 hj)
  rw [Bool.and_eq_true,Nat.blt_eq] at this
  exact ⟨Nat.eq_of_beq_eq_true this.1,this.2⟩
 exact ⟨fun f j hj=>(key f j hj).1,fun f j hj h1 _=>absurd (key f j hj).2 (by omega),fun f j hj h1=>absurd (key f j hj).2 (by omega)⟩
theorem aE5 {P:Program} {ft:FT} {F:Nat→FuncId} {f j:Nat} (hF:F j=f) (hk:1000000000≤j→j < 2000000000→p9 P f (F (gOf j))) (hs:2000000000≤j→qT P f (F (gOf j))) (h:pC P F ft):pC P F ((f,j)::ft):=by
 have key:∀ f' j',ag ((f,j)::ft) f'=some j'→(f'=f∧j'=j)∨ag ft f'=some j':=fun f' j' hj=>by
  simp only [ag] at hj
  cases hb:Nat.beq f' f with
  | true =>
   rw [hb] at hj
   cases hj
   exact .inl ⟨Nat.eq_of_beq_eq_true hb,rfl⟩
  | false =>
   rw [hb] at hj
   exact .inr hj
 refine ⟨fun f' j' hj=>?_,fun f' j' hj h1 h2=>?_,fun f' j' hj h1=>?_⟩
 ·rcases key _ _ hj with ⟨rfl,rfl⟩ | hj
  ·exact hF
  ·exact h.eq _ _ hj
 ·rcases key _ _ hj with ⟨rfl,rfl⟩ | hj
  ·exact hk h1 h2
  ·exact h.keys _ _ hj h1 h2
 ·rcases key _ _ hj with ⟨rfl,rfl⟩ | hj
  ·exact hs h1
  ·exact h.sorts _ _ hj h1
section
variable {H:Type} {eH:TypeId×Value→H} {P:Program}
theorem oV {W W':World} (hl:laidOutB P=true) (hb:Below W.heap.size W W'):∀ {ts:List TypeId} {vs:List Value} {ds:List (DataW H)} {ps:List MemPlace},(∀ t∈ts,P.readableRec t=true∧t < P.types.size) →
  DataW.TrodAll eH P W 0 (fun _=>true) true ts vs ds ps→DataW.TrodAll eH P W' 0 (fun b=>decide (b < W.heap.size)) true ts vs ds ps
 | [],[],[],_,_,h=>h
 | t::ts,v::vs,d::ds,_,hr,⟨p,q,h1,h2,h3⟩ =>
  ⟨p,q,Below.trod hl (hr t (by simp)).1 (hr t (by simp)).2 h1 hb (by obtain ⟨m,hm⟩:=h1; exact DataW.trod_lt m _ _ _ hm),oV hl hb (fun t ht=>hr t (by simp [ht])) h2,h3⟩
 | [],_::_,_,_,_,h=>h.elim
 | [],[],_::_,_,_,h=>h.elim
 | _::_,[],_,_,_,h=>h.elim
 | _::_,_::_,[],_,_,h=>h.elim
theorem yZ (B:aGE H) {fn:Func} {f:FuncId} {F:Nat→FuncId} {α:Type} {A:α→List D} {ok pre:α→Prop} {size:α→Nat} {N:Nat} (hs:dM P F f (FnC A noB pre (fun _=>[.bool true]) noB))
  (hA:aFI P fn.params.toList A ok size) (hpre:∀ a,ok a→size a≤N→pre a) (hlaid:laidOutB P=true) (hread:∀ t∈fn.params.toList,P.readableRec t=true∧t < P.types.size) {rt:TypeId} (hres:fn.resultTypes=#[rt]) (hrt:P.underlying rt=some .bool)
  {s:ChangeSpec} (hv:s.vars=[]) (hfn:∀ ds:List (DataW H),ds.length=fn.params.toList.length→s.fn H ds={ results:=[.lit (.bool true)],args:=ds }) {W:World} {base:Nat} {args:Array Value} {ds gs:List (DataW H)} {before:List MemPlace}
  (hval:∀ (j:Nat) t v,fn.params[j]? = some t→args[j]? = some v→Value.okWide P W .any base t v) (hW:DataW.Whole eH P fn.params.toList s.vars false W args.toList ds gs before) (hk:B.all (ds++gs)≤N) :
  Calls P f args W fun e W'=>∃ v,e=.returned v∧s.post eH P fn false true false false W args v W':=by
 have hW':=hW
 obtain ⟨p,q,hA0,hV,rfl,hfz,hnd⟩:=hW
 rw [hv] at hV
 obtain ⟨rfl,rfl⟩:=trodVars_none hV
 rw [List.append_nil] at hk
 obtain ⟨a,a1,a2,a3,a4,a5⟩:=hA.read eH B W 0 base (fun _=>true) .any args.toList ds p hA0 fun j t v hj hv=>hval j t v (by rw [← Array.getElem?_toList]; exact hj) (by rw [← Array.getElem?_toList]; exact hv)
 have cp:CPre F ⟨σOf W,fun _ _=>none,fun _=>none⟩ W [] args (A a) []:=by
  refine ⟨fun b o v h=>?_,by rw [← Array.length_toList,a3,hA.len],fun j hj=>?_,fun j hj h=>?_,rfl,fun i j hi=>by simp at hi,fun b x h=>(by cases h),fun b b' x x' h=>(by cases h),fun k hk=>by simp at hk,fun k hk=>by simp at hk⟩
  ·have h:σOf W b o=some v:=h
   unfold σOf at h
   split at h
   ·rename_i c e fz hh
    split at h
    ·rename_i u hu
     split at h
     ·rename_i h1
      cases h
      exact ⟨h1,c,e,fz,hh,hu⟩
     ·cases h
    ·cases h
   ·cases h
  ·have:=a5 F (G0 ⟨σOf W,fun _ _=>none,fun _=>none⟩ []) (fun _=>none) rfl j (by rw [← hA.len a]; exact hj)
   simpa [Array.getD_eq_getD_getElem?,List.getD_eq_getElem?_getD] using this
  ·rw [dK _ _ hj]
   exact (hA.pure a _ (List.getElem_mem hj)).names _ _
 have hfnK:FnC A noB pre (fun _=>[.bool true]) noB (A a) [] (fun rs _=>rs=[.bool true]):=⟨a,wH (hA.pure a) ⟨hpre a a1 (by omega),rfl⟩⟩
 refine (hs.calls ⟨σOf W,fun _ _=>none,fun _=>none⟩ W [] args (A a) [] _ cp hfnK).mono fun e W' ⟨vs,rs,bs',σ',he,hrs,hp⟩=>?_
 subst hrs
 have h1:vs.size=1:=hp.size
 have h2:=hp.res 0 (by simp)
 have h3:vs[0]'(by omega)=.bool true:=by
  have h4:Rp σ' (vs.getD 0 undef) (.bool true):=h2
  rw [Array.getD_eq_getD_getElem?,Array.getElem?_eq_getElem (by omega)] at h4
  simp only [Option.getD_some] at h4
  generalize vs[0]'(by omega)=v at h4 ⊢
  cases h4
  rfl
 have h5:eU vs=.bool true:=by
  unfold eU
  rw [dif_pos h1,h3]
 rw [h5] at he
 subst he
 have bel:Below W.heap.size W W':=⟨hp.os,hp.tape,hp.output,hp.base,fun k hk=>hp.keep k hk (by simp) rfl⟩
 have hds:=hfn ds a4
 refine ⟨.bool true,rfl,ds,[],p++[],[],p,[],hW',?_,?_,?_,bel.frame _,fun h=>by cases h⟩
 ·rw [List.append_nil,hds,hres]
  exact trodAll_mk1 (shut_bool hrt _)
 ·rw [List.append_nil,hds]
  exact oV hlaid bel hread hA0
 ·rw [List.append_nil,hds,hv]
  exact rfl
end
section
variable {P:Program} {F:Nat→FuncId}
theorem CPost.same {σ:Og} {w:World} {ext:List Nat} {vals:Array Value} {ds:List D} (h:CPre F σ w ext vals ds []) {v:Value} {d:D} (hr:Rp σ v d.pure1) (hd:∀ l,d≠.agg l) (ht:∀ q z n g,d≠.slice (.own q) z n g) (hn:∀ l,d≠.newp l) (ha:∀ f z n g,d≠.arr f z n g):CPost σ w ext w σ.σ [d] [] #[v]:=by
 refine ⟨h.stab,SgLe.refl _,fun _ _ _=>rfl,rfl,rfl,rfl,Nat.le_refl _,fun _ _ _ _=>rfl,fun k f z n g hk=>by simp at hk,fun k hk=>by simp at hk,rfl,fun j hj=>?_,fun i j b hi hj _ _=>?_,σ.φ,fun b x hx=>⟨x.ob,hx⟩,fun b x hx=>.inl ⟨x.ob,hx⟩,fun b x hx=>absurd (h.frn b x hx) (by rintro ⟨_,_,k,hk,_⟩; simp at hk),fun b x hx=>absurd (h.frn b x hx) (by rintro ⟨_,_,k,hk,_⟩; simp at hk),h.uniq,fun k m c va nl n ks vs hk=>by simp at hk,fun j b hj hb=>?_,fun k m va nl n ks vs hk=>by simp at hk⟩
 rotate_right
 ·cases hg:σ.φ b with
  | none=>rfl
  | some x =>
   obtain ⟨_,_,k,hk,_⟩:=h.frn b x hg
   simp at hk
 ·have:j=0:=by simpa using hj
  subst this
  show tC σ w w.heap.size v d
  cases d with
  | agg l=>exact absurd rfl (hd l)
  | slice t z n g=>cases t with
   | own q=>exact absurd rfl (ht q z n g)
   | _=>exact hr
  | newp l=>exact absurd rfl (hn l)
  | arr f z n g=>exact absurd rfl (ha f z n g)
  | _=>exact hr
 ·simp at hi hj
  omega
end
end Go.Abs
namespace Go.Abs
open Go Go.RowKit Go.Maps Go.Sort Go.Shelf Go.Proofs Go.WideElems Go.MapKept
section
variable {P:Program} {ρ ρ':Ren}
theorem aFJ (L:SlLaysZ.n7 P ρ) (he:∀ (args:Array Value) (w:World),(callFunc (ρ.f 7) args).run P w=.ok (.enter (ρ.f 7) args) w):p9 P (ρ.f 7) (ρ.f 10) :=
 ⟨he,ρ.t 23,fun mb w=>(callsIn_wide (n:=5)).1 (AnyZ.keys_in L Fence.wide 5 trivial rfl mb w)⟩
theorem aJ7 {w w':World} {k:TypeId} {v:Value} {m:Nat} {l:List (List UInt8)} (h:w'.ownsRow w.heap.size k 1 v m (l.map encStr)):aHC w w' v (l.map fun x=>⟨x.toArray⟩):=by
 obtain ⟨h1,h2⟩:=h
 have hl:l.length=m:=by simpa using h1
 subst hl
 rcases h2 with ⟨rfl,h3⟩ | ⟨g,cap,cur,rfl,h3,h4,h5,_,h6,h7⟩
 ·exact .inl ⟨rfl,by rw [List.length_eq_zero_iff.1 h3]; rfl⟩
 ·refine .inr ⟨g,cap,cur,k,by rw [List.length_map],h3,h4,by rw [List.length_map]; exact h5,by simpa using h6,fun i hi=>?_⟩
  rw [List.length_map] at hi
  have h8:(cur.toList.take (l.length * 1))[i]? = (l.map encStr)[i]?:=by rw [h7]
  rw [List.getElem?_take,if_pos (by omega),List.getElem?_map] at h8
  rw [← Array.getElem?_toList,h8,List.getD_eq_getElem?_getD,List.getElem?_map]
  simp [hi,encStr]
theorem aGD (K:SlLaysZ.n7 P ρ) (L:SlLaysZ.n6 P ρ') (hs:∀ m,AnyZ.SortsIn P ρ' Fence.wide m) (e6:∀ (args:Array Value) (w:World),(callFunc (ρ'.f 6) args).run P w=.ok (.enter (ρ'.f 6) args) w)
  (e9:∀ (args:Array Value) (w:World),(callFunc (ρ'.f 9) args).run P w=.ok (.enter (ρ'.f 9) args) w) (eg:∀ (args:Array Value) (w:World),(callFunc (ρ.f 10) args).run P w=.ok (.enter (ρ.f 10) args) w):qT P (ρ'.f 6) (ρ.f 10):=by
 refine ⟨e6,fun w bx n ks mv hcell hlt hm ⟨hroom,hsize,hinj⟩=>?_⟩
 have hroom:n * 16≤140737488355328:=hroom
 have fin:∀ (S:List (List UInt8)→Prop) (N:Nat),N≤maxLen→N * 16≤140737488355328→SeqGives Fence.wide 2 P (ρ.f 10) #[.pointer (some ⟨bx,0,none⟩)] encStr S N w→(∀ ss,S ss→ss.Perm ((List.range n).map fun i=>(ks i).data.toList)) →
   Calls P (ρ'.f 6) #[.func (.func (ρ.f 10)) #[] #[.pointer (some ⟨bx,0,none⟩)]] w fun e w'=>∃ v,e=.returned v∧aE1 w w'∧aHC w w' v (gI n ks):=fun S N h1 h2 hseq hS=>by
  refine (callsIn_wide (n:=5)).1 ((AnyZ.sorted_in L Fence.wide 5 trivial trivial trivial trivial rfl (by omega) (hs _) e9 (ρ.f 10) #[.pointer (some ⟨bx,0,none⟩)] trivial eg S N h1 h2 w hseq).mono ?_)
  rintro e w' ⟨v,ss,rfl,hss,hrow,_,hb⟩
  refine ⟨v,rfl,⟨hb.os,hb.tape,hb.output,hb.size,hb.block⟩,?_⟩
  unfold gI
  rw [← mergeSort_of_perm (hS ss hss)]
  exact aJ7 hrow
 rcases hm with ⟨rfl,rfl⟩ | ⟨b,es,ck,rfl,hb,hrm,hn,hk⟩
 ·exact fin (fun ss=>ss=[]) 0 (Nat.zero_le _) (by omega) (AnyZ.keys_gives_nil (ρ:=ρ) { K with } Fence.wide _ trivial rfl bx w hlt hcell) fun ss h=>by rw [h]; exact List.Perm.refl _
 ·have t26:P.underlying (ρ.t 26)=some .string:=K.t26
  let R:Value→Option (DataW Unit×List MemPlace):=fun _=>some (.nil,[])
  have hkey:∀ i (h:i < es.size),Go.WideElems.rd P (ρ.t 26) R es[i]=some (.string (ks i).data.toList,.nil):=fun i h=>by
   have h1:keyOf P (ρ.t 26) es[i].key=some (.string (ks i).data.toList):=by
    rw [hk i h]
    unfold keyOf
    rw [t26]
    simp only [mapKey,t26]
    exact if_pos (hsize i (by omega))
   unfold Go.WideElems.rd
   rw [h1]
   rfl
  have F:Fit P (ρ.t 26) R es ck:=by
   refine ⟨?_,(stamped_iff es ck).2 ⟨fun x hx=>?_,?_,?_⟩,fun x hx=>?_⟩
   ·have:(maxLen:Nat)=9223372036854775807:=rfl
    omega
   ·obtain ⟨i,hi,rfl⟩:=List.mem_iff_getElem.1 hx
    exact hrm.2 i (by simpa using hi)
   ·rw [List.nodup_iff_pairwise_ne,List.pairwise_map,List.pairwise_iff_getElem]
    intro i j hi hj hij he
    have:=hrm.1 i j (by simpa using hi) (by simpa using hj) he
    omega
   ·rw [List.pairwise_iff_getElem]
    intro i j hi hj hij he
    have hi:i < es.size:=by simpa using hi
    have hj:j < es.size:=by simpa using hj
    have he:es[i].key=es[j].key:=he
    rw [hk i hi,hk j hj] at he
    have:=hinj i j (by omega) (by omega) (Value.string.inj he)
    omega
   ·obtain ⟨i,hi,rfl⟩:=List.mem_iff_getElem.1 hx
    exact ⟨_,hkey i (by simpa using hi)⟩
  have hown:w.ownsMap P (ρ.t 26) R b es.size (.map ((es.toList.map (rg P (ρ.t 26) R)).foldr DataW.insert [])):=⟨es,ck,hb,F,Nat.le_refl _,rfl⟩
  have hlen:((es.toList.map (rg P (ρ.t 26) R)).foldr DataW.insert []).length=n:=by rw [length_sorted]; simp [hn]
  refine fin _ _ ?_ ?_ (AnyZ.keys_gives (ρ:=ρ) { K with } Fence.wide _ trivial rfl (by omega) bx b es.size _ w hlt hcell hown) fun ss h=>?_
  ·have:(maxLen:Nat)=9223372036854775807:=rfl
   show ((es.toList.map (rg P (ρ.t 26) R)).foldr DataW.insert []).length≤_
   omega
  ·show ((es.toList.map (rg P (ρ.t 26) R)).foldr DataW.insert []).length * 16≤_
   omega
  ·have h:ss.Perm (((es.toList.map (rg P (ρ.t 26) R)).foldr DataW.insert []).map fun p=>strOf p.1):=h
   refine h.trans (((Go.WideShapes.sorted_perm _).map _).trans (List.Perm.of_eq ?_))
   rw [List.map_map]
   refine List.ext_getElem (by simp [hn]) fun i h1 h2=>?_
   have hi:i < es.size:=by simpa using h1
   simp only [List.getElem_map,Function.comp_apply,List.getElem_range,Array.getElem_toList]
   rw [rg_of (hkey i hi)]
   rfl
end
end Go.Abs
namespace Go.Abs
open Go Go.Sort Go.Shelf Go.Proofs
def dG (l:List ByteArray):List ByteArray:=((l.map fun s=>s.data.toList).mergeSort fun x y=>decide (x≤y)).map fun l=>⟨l.toArray⟩
def rP (l:List ByteArray):Prop:=l.length≤1048576
def eT (s:ByteArray):List D:=[.str s]
theorem iU (l:List ByteArray):(dG l).length=l.length:=by
 unfold dG
 rw [List.length_map,List.length_mergeSort,List.length_map]
structure aHS (P:Program) (f:FuncId):Prop where
 enter:∀ (args:Array Value) (w:World),(callFunc f args).run P w=.ok (.enter f args) w
 some_:∀ (blk cap:Nat) (ss:List (List UInt8)) (w:World),Holds encStr w blk 0 ss.toArray→blk < w.heap.size→ss.length < 4611686018427387904 →
  Calls P f #[.slice (some ⟨blk,0,none⟩) ss.length cap] w fun e w'=>e=.returned (.tuple #[])∧∃ n os,w'=grow (putRow encStr (Sort.ahead w n) blk 0 (ss.mergeSort fun x y=>decide (x≤y)).toArray) os
 none_:∀ (p:Option Addr) (cap:Nat) (w:World),Calls P f #[.slice p 0 cap] w fun e w'=>e=.returned (.tuple #[])∧w'=w
theorem aIU {P:Program} {ρ:Ren} (L:SlLaysM.n6 P ρ) (he:∀ (args:Array Value) (w:World),(callFunc (ρ.f 6) args).run P w=.ok (.enter (ρ.f 6) args) w):aHS P (ρ.f 6) :=
 ⟨he,fun blk cap ss w h1 h2 h3=>AnyM.slices_Sort_string L blk 0 cap ss w h1 h2 h3,fun p cap w=>AnyM.slices_Sort_string_none L p cap w⟩
theorem aD7 {P:Program} {F:Nat→FuncId} {f:FuncId} (S:aHS P f):dM P F f (FnC (fun a:List ByteArray=>[.msl 0 1 a.length]) (fun a=>[[.dead,.arr false 1 a.length (gl eT a)]]) (fun a=>a.length≤1048576) (fun _=>[])
  (fun a=>[[.dead,.arr false 1 (dG a).length (gl eT (dG a))]])):=by
 refine ⟨S.enter,fun ds bs K K' hK hh=>?_,fun ds bs K hh=>?_,fun σ w ext vals ds bs K cp hh=>?_⟩
 ·obtain ⟨a,hh⟩:=hh
  exact ⟨a,dT (gY (iZ fun ⟨h1,h2⟩=>⟨h1,hK _ _ h2⟩)) hh⟩
 ·obtain ⟨a,hh⟩:=hh
  exact ⟨_,_,(fT (dY (b7 hh).2).2).2.2⟩
 ·obtain ⟨a,hh⟩:=hh
  obtain ⟨h1,h2⟩:=b7 hh
  obtain ⟨h3,h4⟩:=dY h2
  obtain ⟨h5,h6,h7⟩:=fT h4
  have cp:=cp.deq h3 h5 h1
  obtain ⟨v,rfl⟩:∃ v,vals=#[v]:=Array.size_eq_one_iff.1 cp.size
  have ha:=cp.args 0 (by simp)
  obtain ⟨av,c,hv,hη,hnc,hblk⟩:=ha.msl_inv
  have hφ:∀ b,σ.φ b=none:=fun b=>by
   cases hb:σ.φ b with
   | none=>rfl
   | some x =>
    obtain ⟨_,_,k,hk,h8,_⟩:=cp.frn b x hb
    have:k=0:=by simpa using hk
    subst this
    cases h8
  have po:∀ w':World,q7 σ w.heap.size ext w' σ.σ [] [[.dead,.arr false 1 (dG a).length (gl eT (dG a))]] #[] fun _=>none:=fun w' =>
   ⟨fun b x h=>(by rw [hφ b] at h; cases h),fun _ _ h=>(by cases h),fun _ _ h=>(by cases h),fun _ _ h=>(by cases h),fun _ _ _ _ h=>(by cases h),fun k m c va nl n ks vs hk _ hbk=>(by
    have:k=0:=by simpa using hk
    subst this
    cases hbk),fun _ _ _ _=>rfl,fun k m va nl n ks vs hk _ hbk=>(by
    have:k=0:=by simpa using hk
    subst this
    cases hbk)⟩
  have hlen:ext.length=1:=cp.len
  have hrow:aKC σ w ext 0 1 a.length (gl eT a):=by
   rcases cp.blocks 0 (by simp) with ⟨z,n,g,e1,h8⟩ | ⟨_,_,_,_,_,_,e1,_⟩ | ⟨e1,_⟩
   ·cases e1
    exact h8
   ·cases e1
   ·cases e1
  obtain ⟨av',c',hη',hnc',_,hbk⟩:=hrow
  have hη:σ.η 0 a.length=some (.slice av a.length c):=hη
  rw [hη] at hη'
  cases hη'
  have hv:v=.slice av a.length c:=hv
  subst hv
  have fin:∀ w':World,w'.os=w.os→w'.tape=w.tape→w'.output=w.output→w.heap.size≤w'.heap.size→(∀ b,b < w.heap.size→b≠ext.getD 0 0∨c=0∨w'=w→w'.heap[b]? = w.heap[b]?)→(0 < c→∃ o,w'.heap[ext.getD 0 0]? = some o∧RowO σ.σ o 1 (dG a).length c (gl eT (dG a))) →
    ∃ vs rs bs' σ',Ending.returned (.tuple #[])=.returned (eU vs)∧K rs bs'∧CPost σ w ext w' σ' rs bs' vs:=fun w' k1 k2 k3 k4 k5 k6=>by
   refine ⟨#[],_,_,σ.σ,rfl,h7,fun b o v hv=>?_,SgLe.refl _,fun _ _ _=>rfl,k1,k2,k3,k4,fun b hb he _=>?_,fun k f z n g hk _ hbk'=>?_,fun k hk _ hs=>?_,rfl,fun j hj=>absurd hj (Nat.not_lt_zero _),fun i j b hi=>absurd hi (Nat.not_lt_zero _),_,po w'⟩
   ·obtain ⟨g1,cs,e,fz,g2,g3⟩:=cp.stab b o v hv
    refine ⟨g1,cs,e,fz,?_,g3⟩
    rw [k5 b (Array.getElem?_eq_some_iff.1 g2).1]
    ·exact g2
    ·by_cases hc:0 < c
     ·obtain ⟨_,g4,_⟩:=hbk hc
      refine .inl fun e=>?_
      rw [e,g4 o] at hv
      cases hv
     ·exact .inr (.inl (by omega))
   ·refine k5 b hb (.inl fun e=>he ?_)
    rw [e]
    match ext,hlen with
    | [x],_=>simp
   ·have:k=0:=by simpa using hk
    subst this
    cases hbk'
    rw [iU]
    refine ⟨av,c,hη,fun b hb hc=>?_⟩
    obtain ⟨e1,_⟩:=hbk hc
    rw [hb] at e1
    cases e1
    obtain ⟨o,g1,g2⟩:=k6 hc
    rw [iU] at g2
    exact ⟨o,g1,g2⟩
   ·have:k=0:=by simpa using hk
    subst this
    simp [aM,D.pure1,aI] at hs
  by_cases hn:a.length=0
  ·have ha0:a=[]:=List.length_eq_zero_iff.1 hn
   subst ha0
   refine (S.none_ av c w).mono fun e w' ⟨he,hw⟩=>?_
   subst he hw
   exact fin w' rfl rfl rfl (Nat.le_refl _) (fun _ _ _=>rfl) fun hc=>by
    obtain ⟨_,_,o,g1,cur,e,g2,g3,_⟩:=hbk hc
    exact ⟨o,g1,cur,e,g2,g3,fun i hi=>by rw [iU] at hi; exact absurd hi (Nat.not_lt_zero _)⟩
  ·have hc:0 < c:=by omega
   obtain ⟨e1,g4,o,g1,cur,e,rfl,g2,g3⟩:=hbk hc
   subst e1
   let ss:=a.map fun s=>s.data.toList
   have hss:ss.length=a.length:=List.length_map _
   have hcell:cur.toList.take ss.length=ss.map encStr:=by
    refine List.ext_getElem ?_ fun i h8 h9=>?_
    ·have q1:(ss.map encStr).length=a.length:=(List.length_map _).trans hss
     have q2:cur.toList.length=cur.size:=Array.length_toList
     rw [q1,hss,List.length_take]
     omega
    ·have h9:i < a.length:=by
      have q1:(ss.map encStr).length=a.length:=(List.length_map _).trans hss
      exact q1 ▸ h9
     obtain ⟨_,h10⟩:=g3 i h9
     obtain ⟨_,h11⟩:=h10 0 (by omega)
     have h12:cur.getD (i * 1+0) undef=cur[i]'(by omega):=by
      rw [show i * 1+0=i by omega,Array.getD_eq_getD_getElem?,Array.getElem?_eq_getElem (by omega)]
      rfl
     rw [h12] at h11
     have h13:(nth (gl eT a i) 0 .dead).pure1=.str (a[i]'h9):=by
      show (D.str (a.getD i default)).pure1=_
      rw [List.getD_eq_getElem?_getD,List.getElem?_eq_getElem h9]
      rfl
     rw [h13] at h11
     simp only [List.getElem_take,Array.getElem_toList,List.getElem_map,ss]
     generalize cur[i]'(by omega)=y at h11
     cases h11
     rfl
   have hH:=holds_of_block g1 hcell
   have hlt:=(Array.getElem?_eq_some_iff.1 g1).1
   have:=S.some_ (ext.getD 0 0) c ss w hH hlt (by omega)
   rw [hss] at this
   refine this.mono fun e' w' ⟨he,k,os,hw⟩=>?_
   subst he hw
   have hg:=grownBy_sorted (w:=w) (g:=ext.getD 0 0) (n:=k) (os:=os) (ss.mergeSort fun x y=>decide (x≤y)).toArray
   have hb:=heap_sorted (n:=k) (os:=os) (ss.mergeSort fun x y=>decide (x≤y)).toArray g1
   obtain ⟨q1,q2,q3,q4,q5⟩:=hg
   refine fin _ q1 q2 q3 q4 (fun b hb' hne=>?_) fun _=>⟨_,hb,_,e,rfl,by simpa [putCells] using g2,fun i hi=>⟨rfl,fun j hj=>?_⟩⟩
   ·rcases hne with hne | hne | hne
    ·exact q5 b hb' fun e=>hne (Option.some.inj e)
    ·omega
    ·rw [hne]
   ·have:j=0:=by omega
    subst this
    have hms:(ss.mergeSort fun x y=>decide (x≤y)).length=a.length:=by rw [List.length_mergeSort,hss]
    rw [iU] at hi
    have ht:=take_putCells cur (ss.mergeSort fun x y=>decide (x≤y)) (by omega)
    have h8:((putCells encStr 0 (ss.mergeSort fun x y=>decide (x≤y)).toArray cur).toList.take (ss.mergeSort fun x y=>decide (x≤y)).length)[i]? = ((ss.mergeSort fun x y=>decide (x≤y)).map encStr)[i]?:=by rw [ht]
    rw [List.getElem?_take_of_lt (by omega),Array.getElem?_toList,List.getElem?_map,List.getElem?_eq_getElem (by omega)] at h8
    rw [show i * 1+0=i by omega,Array.getD_eq_getD_getElem?,h8]
    refine ⟨rfl,?_⟩
    have h9:(nth (gl eT (dG a) i) 0 .dead).pure1=.str ⟨((ss.mergeSort fun x y=>decide (x≤y))[i]'(by omega)).toArray⟩:=by
     show (D.str ((dG a).getD i default)).pure1=_
     rw [List.getD_eq_getElem?_getD,List.getElem?_eq_getElem (by rw [iU]; exact hi)]
     simp only [dG,List.getElem_map,Option.getD_some]
     rfl
    rw [h9]
    exact .str _
end Go.Abs
