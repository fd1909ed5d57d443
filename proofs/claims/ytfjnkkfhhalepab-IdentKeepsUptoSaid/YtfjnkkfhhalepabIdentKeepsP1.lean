/- The abstract machine and its soundness. -/
import Derived.ChangeKeysEq
import Derived.Lib.OthersKept
import Derived.MapKept
import Derived.Test.YtfjnkkfhhalepabIdentKeepsP0
set_option linter.unusedVariables false
set_option linter.unusedSimpArgs false
namespace Go.Abs
open Go
section
variable {P:Program} {F:Nat→FuncId} {B np:Nat} {w0 w w':World} {ext:List Nat} {σ0:Og} {G G':Gh} {hp:Nat→Option (Bool×List D)} {tk tk':Nat→Option (Nat×Nat)}
structure Src (P:Program) (w:World) (σ:Sg) (z k:Nat) (x:Value) (h:Nat→List D) (news:List Value):Prop where
 len:news.length=k * z
 one:∀ v∈news,v.oneCell'=true
 run:∀ w2:World,w2.heap=w.heap→(Builtin.firstCells z k x).run P w2=.ok news.toArray w2
 lenOf:∀ w2:World,(Builtin.lenOf x).run P w2=.ok k w2
 el:∀ i,i < k→(h i).length=z
 rd:∀ i j,i < k→j < z→∃ v,news[i * z+j]? = some v∧Rp σ v (nth (h i) j .dead).pure1
theorem p9 (m:Mem F B np w0 ext σ0 G hp tk w) {x:Value} {t:Tag} {z k:Nat} {h:Nat→List D} (hx:Rp G.σ x (.slice t z k h)):∃ news,Src P w G.σ z k x h news:=by
 cases hx with
 | slice a _ c _ _ _ b o val h1 h2 h3 h4 h5 =>
  have hlt:∀ i j,i < k→j < z→i * z+j < k * z:=by
   intro i j hi hj
   have:(i+1) * z≤k * z:=Nat.mul_le_mul_right _ hi
   rw [Nat.add_mul] at this
   omega
  have hdm:∀ q,q < k * z→∃ v,G.σ b (o+q)=some v:=by
   intro q hq
   have hz:0 < z:=by
    rcases Nat.eq_zero_or_pos z with h0 | h0
    ·subst h0; simp at hq
    ·exact h0
   have hi:q / z < k:=by rw [Nat.div_lt_iff_lt_mul hz]; exact hq
   have:=h4 (q / z) (q % z) hi (Nat.mod_lt _ hz)
   rw [show o+q / z * z+q % z=o+q from by rw [Nat.add_assoc,Nat.mul_comm,Nat.div_add_mod]] at this
   exact ⟨_,this⟩
  refine ⟨(List.range (k * z)).map fun q=>(G.σ b (o+q)).getD undef,by simp,fun v hv=>?_,fun w2 hw2=>?_,fun w2=>by simp [Builtin.lenOf],h3,fun i j hi hj=>?_⟩
  ·obtain ⟨q,hq,rfl⟩:=List.mem_map.1 hv
   obtain ⟨v,h6⟩:=hdm q (List.mem_range.1 hq)
   rw [h6]
   exact (m.stab b (o+q) v h6).1
  ·cases a with
   | none =>
    have:k=0:=by
     rcases Nat.eq_zero_or_pos k with h0 | h0
     ·exact h0
     ·cases h2 (by omega)
    subst this
    simp [Builtin.firstCells]
   | some ad =>
    by_cases hk:k=0
    ·subst hk
     simp [Builtin.firstCells,loadCells,loadCellsFrom]
    ·cases h2 hk
     have:=run_loadCells (P:=P) w2 ⟨b,o,none⟩ (k * z) (fun q=>(G.σ b (o+q)).getD undef) (fun q hq=>by
      obtain ⟨v,h6⟩:=hdm q hq
      rw [h6,cQ]
      have h7:=m.cell h6
      simpa [World.cell?,hw2] using h7)
     simpa [Builtin.firstCells] using this
  ·have:=hlt i j hi hj
   refine ⟨val i j,?_,h5 i j hi hj⟩
   have h6:=h4 i j hi hj
   rw [Nat.add_assoc] at h6
   simp [this,h6]
theorem aG1 (w:World) (σ:Sg) (s:ByteArray):∃ news,Src P w σ 1 s.size (.string s) (nM s) news:=by
 refine ⟨(s.data.toList.map fun b=>Value.int .u8 b.toNat),by simp,fun v hv=>?_,fun w2 _=>?_,fun w2=>by simp [Builtin.lenOf],fun i _=>rfl,fun i j hi hj=>?_⟩
 ·obtain ⟨b,_,rfl⟩:=List.mem_map.1 hv
  rfl
 ·have h1:(s.extract 0 s.size).data=s.data:=by
   simp
  simp only [Builtin.firstCells,Sem.run_pure,h1]
  congr 1
  apply Array.ext'
  simp
 ·have:j=0:=by omega
  subst this
  have hi':i < s.data.toList.length:=by simpa using hi
  refine ⟨.int .u8 ((nth s.data.toList i 0).toNat:Int),?_,.int _ _⟩
  rw [cP _ _ hi']
  simp only [Nat.mul_one,Nat.add_zero,List.getElem?_map,List.getElem?_eq_getElem hi',Option.map_some]
theorem gL {t u ty e:TypeId} {du:TypeDesc} {i:TypeInfo} (ht:P.underlying t=some (.slice e)) (hu:P.underlying u=some du) (hdu:kS du=true) (hi:P.info? e=some i) (base:Option Addr) (n c k:Nat) (x:Value) (news:List Value)
  (hl:∀ w2:World,(Builtin.lenOf x).run P w2=.ok k w2) (hf:(Builtin.firstCells i.size k x).run P w=.ok news.toArray w) (hfit:n+k≤c) :
  (Builtin.append_ #[t,u] ty #[.slice base n c,x]).run P w=((match base with | some a=>storeCells (a.add (n * i.size)) news | none=>pure ()).run P w).andThen fun _ w=>.ok (.slice base (n+k) c) w:=by
 have hso:∀ w:World,(sizeOf e).run P w=.ok i.size w:=fun w=>by simp [sizeOf,typeInfo,program,Sem.run,hi]
 have hkd:(∃ e',P.underlying u=some (.slice e'))∨P.underlying u=some .string:=by
  cases du <;> first | exact .inl ⟨_,hu⟩ | exact .inr hu | cases hdu
 cases base <;> (rcases hkd with ⟨e',hk⟩ | hk <;> simp [Builtin.append_,a8 ht,a8 hk,hso,hl,hfit,hf])
theorem pS {t u ty e:TypeId} {du:TypeDesc} {i:TypeInfo} {zv:Value} (ht:P.underlying t=some (.slice e)) (hu:P.underlying u=some du) (hdu:kS du=true) (hi:P.info? e=some i) (hz:i.zero=some zv) (hb:0 < i.bytes)
  (base:Option Addr) (n c k:Nat) (x:Value) (olds news:List Value) (hl:∀ w2:World,(Builtin.lenOf x).run P w2=.ok k w2) (hf:(Builtin.firstCells i.size k x).run P w.drew=.ok news.toArray w.drew)
  (hfo:(Builtin.firstCells i.size n (.slice base n c)).run P w.drew=.ok olds.toArray w.drew) (hgrow:c < n+k) (hroom:(n+k) * i.bytes≤140737488355328) :
  (Builtin.append_ #[t,u] ty #[.slice base n c,x]).run P w=.ok (.slice (some ⟨w.heap.size,0,none⟩) (n+k) (grownCap w (n+k) c e))
   (w.drew.alloc (.cells (olds.toArray++news.toArray++Builtin.zeroCells zv.cells (grownCap w (n+k) c e - (n+k))) e)):=by
 have hkd:(∃ e',P.underlying u=some (.slice e'))∨P.underlying u=some .string:=by
  cases du <;> first | exact .inl ⟨_,hu⟩ | exact .inr hu | cases hdu
 have hn:¬(n+k≤c):=by omega
 have h63':¬(9223372036854775807 < ((n:Int)+(k:Int))):=by
  have:=qG hb hroom
  omega
 have h48:=growslice_fits hgrow hroom
 have h48':¬(281474976710656 < Builtin.nextslicecap (n+k) c * i.bytes):=by omega
 rcases hkd with ⟨e',hk⟩ | hk <;>
  (simp [Builtin.append_,a8 ht,a8 hk,sizeOf,typeInfo,zeroValue,hi,hz,hl,hn,h63',h48',Question.forced,hf,hfo,newRow,grownCap]
   congr 2
   apply Array.ext'
   simp [List.append_assoc])
theorem Rp.all {σ:Sg} {b o n c z:Nat} {t:Tag} {g:Nat→List D} (hnc:n≤c) (hz:∀ i,i < n→(g i).length=z)
  (h:∀ i j,i < n→j < z→∃ v,σ b (o+i * z+j)=some v∧Rp σ v (nth (g i) j .dead).pure1):Rp σ (.slice (some ⟨b,o,none⟩) n c) (.slice t z n g):=by
 refine .slice _ n c t z g b o (fun i j=>(σ b (o+i * z+j)).getD undef) hnc (fun _=>rfl) hz (fun i j hi hj=>?_) (fun i j hi hj=>?_)
 ·obtain ⟨v,h1,_⟩:=h i j hi hj
  rw [h1]
  rfl
 ·obtain ⟨v,h1,h2⟩:=h i j hi hj
  rw [h1]
  exact h2
theorem gW {g h:Nat→List D} {n i:Nat} (hi:i < n):c9 g n h i=g i:=by
 unfold c9
 have:Nat.blt i n=true:=by rw [Nat.blt_eq]; exact hi
 rw [this]
 rfl
theorem rT {g h:Nat→List D} {n i:Nat} (hi:n≤i):c9 g n h i=h (i - n):=by
 unfold c9
 have:Nat.blt i n=false:=by
  cases hh:Nat.blt i n with
  | false=>rfl
  | true=>rw [Nat.blt_eq] at hh; omega
 rw [this]
 rfl
theorem aC1 {σ σ':Sg} {b z n k:Nat} {g h:Nat→List D} (hle:SgLe σ σ') (hold:∀ i j,i < n→j < z→∃ v,σ' b (i * z+j)=some v∧Rp σ v (nth (g i) j .dead).pure1)
  (hnew:∀ i j,i < k→j < z→∃ v,σ' b (n * z+(i * z+j))=some v∧Rp σ v (nth (h i) j .dead).pure1) :
  ∀ i j,i < n+k→j < z→∃ v,σ' b (0+i * z+j)=some v∧Rp σ' v (nth (c9 g n h i) j .dead).pure1:=by
 intro i j hi hj
 rcases Nat.lt_or_ge i n with h1 | h1
 ·obtain ⟨v,h2,h3⟩:=hold i j h1 hj
  rw [gW h1,Nat.zero_add]
  exact ⟨v,h2,h3.mono hle⟩
 ·obtain ⟨v,h2,h3⟩:=hnew (i - n) j (by omega) hj
  rw [rT h1,Nat.zero_add]
  refine ⟨v,?_,h3.mono hle⟩
  rw [← h2,← Nat.add_assoc,← Nat.add_mul,show n+(i - n)=i from by omega]
theorem yZ {g h:Nat→List D} {n k z:Nat} (h1:∀ i,i < n→(g i).length=z) (h2:∀ i,i < k→(h i).length=z):∀ i,i < n+k→(c9 g n h i).length=z:=by
 intro i hi
 rcases Nat.lt_or_ge i n with h3 | h3
 ·rw [gW h3]; exact h1 i h3
 ·rw [rT h3]; exact h2 _ (by omega)
theorem y6 (m:Mem F B np w0 ext σ0 G hp tk w) {y:Value} {tg:Tag} {n k:Nat} {g h:Nat→List D} {i:TypeInfo} {zv:Value} {t u ty e:TypeId} {du:TypeDesc} {news:List Value} (ht:P.underlying t=some (.slice e)) (hu:P.underlying u=some du) (hdu:kS du=true)
  (hi:P.info? e=some i) (hz:i.zero=some zv) (hb:0 < i.bytes) (hzs:zv.cells.size=i.size) (base:Option Addr) (c:Nat) (hx:Rp G.σ (.slice base n c) (.slice tg i.size n g)) (hy:Src P w G.σ i.size k y h news)
  (hgrow:c < n+k) (hroom:(n+k) * i.bytes≤140737488355328) (q:Nat)
  (hcl:∀ id' f cs',hp id'=some (f,cs')→∀ j,j < cs'.length→(∃ z' m' g,nth cs' j .dead=.slice (.own q) z' m' g)→∃ z0 m0,tk q=some (z0,m0)∧m0 < n+k) :
  ∃ w' v' G',(Builtin.append_ #[t,u] ty #[.slice base n c,y]).run P w=.ok v' w'∧Mem F B np w0 ext σ0 G' hp (fun j=>bif Nat.beq j q then some (i.size,n+k) else tk j) w' ∧
   Rp G'.σ v' (.slice (.own q) i.size (n+k) (c9 g n h))∧SgLe G.σ G'.σ∧G'.β=G.β∧G'.η=G.η∧G'.ρ=fun j=>if j=q then v' else G.ρ j:=by
 obtain ⟨olds,hold⟩:=p9 (P:=P) m hx
 have hrun:=pS (ty:=ty) ht hu hdu hi hz hb base n c k y olds news hy.lenOf (hy.run w.drew rfl) (hold.run w.drew rfl) hgrow hroom
 have hcap:=grownCap_ge w (n+k) c e
 generalize grownCap w (n+k) c e=cap at hrun hcap
 obtain ⟨cells,hcells⟩:∃ cells,cells=olds.toArray++news.toArray++Builtin.zeroCells zv.cells (cap - (n+k)):=⟨_,rfl⟩
 rw [← hcells] at hrun
 have hsz:cells.size=cap * i.size:=by
  rw [hcells]
  simp only [Array.size_append,List.size_toArray,size_zeroCells,hold.len,hy.len,hzs,← Nat.add_mul]
  congr 1
  omega
 have holen:olds.length=n * i.size:=hold.len
 have hnlen:news.length=k * i.size:=hy.len
 have hmul:(n+k) * i.size=n * i.size+k * i.size:=Nat.add_mul _ _ _
 have hg1:∀ o,o < n * i.size→cells[o]? = olds[o]?:=by
  intro o ho
  rw [hcells,Array.append_assoc,Array.getElem?_append,if_pos (by simp; omega)]
  simp
 have hg2:∀ o,o < k * i.size→cells[n * i.size+o]? = news[o]?:=by
  intro o ho
  rw [hcells,Array.append_assoc,Array.getElem?_append,if_neg (by simp; omega),Array.getElem?_append,if_pos (by simp; omega)]
  simp [holen]
 have md:Mem F B np w0 ext σ0 G hp tk w.drew:=⟨m.stab,m.old,m.os,m.tape,m.output,m.base,m.keep,m.vars,m.rows,m.froz,m.toks,m.own1,m.own2,m.resv,m.lins⟩
 obtain ⟨σ',m',hle,h4,h5⟩:=md.newStable cells e (0,0) ((n+k) * i.size) (fun o ho=>by
  rcases Nat.lt_or_ge o (n * i.size) with h6 | h6
  ·have h7:o < olds.length:=by omega
   exact ⟨olds[o],by rw [hg1 o h6]; exact List.getElem?_eq_getElem h7,hold.one _ (List.getElem_mem h7)⟩
  ·have h7:o - n * i.size < news.length:=by omega
   refine ⟨news[o - n * i.size],?_,hy.one _ (List.getElem_mem h7)⟩
   have:=hg2 (o - n * i.size) (by omega)
   rw [show n * i.size+(o - n * i.size)=o from by omega] at this
   rw [this]
   exact List.getElem?_eq_getElem h7)
 change ∀ o,o < (n+k) * i.size→σ' w.heap.size o=cells[o]? at h4
 have m2:=m'.addTok q i.size (n+k) cap (some ⟨w.heap.size,0,none⟩) hcap (fun hlt=>⟨w.heap.size,cells,e,rfl,heap_alloc_new w.drew _,hsz,h5,fun k' hk hown=>by
  have:=m.own_lt (k:=k') (b:=w.heap.size) (by cases k' <;> exact hown)
  omega,m.base,m.resv_new⟩) (fun id' f cs' h6 j hj h7=>by
   obtain ⟨z0,m0,h8,h9⟩:=hcl id' f cs' h6 j hj h7
   exact ⟨z0,m0,h8,by omega,fun h10=>by omega⟩)
 have hlt:∀ i' j n':Nat,i' < n'→j < i.size→i' * i.size+j < n' * i.size:=by
  intro i' j n' h1 h2
  have:(i'+1) * i.size≤n' * i.size:=Nat.mul_le_mul_right _ h1
  rw [Nat.add_mul] at this
  omega
 refine ⟨_,_,_,hrun,m2,?_,hle,rfl,rfl,rfl⟩
 refine Rp.all hcap (yZ hold.el hy.el) (aC1 hle (fun i' j h1 h2=>?_) (fun i' j h1 h2=>?_))
 ·obtain ⟨v,h6,h7⟩:=hold.rd i' j h1 h2
  have:=hlt i' j n h1 h2
  refine ⟨v,?_,h7⟩
  show σ' w.heap.size _=_
  rw [h4 _ (by omega),hg1 _ this,h6]
 ·obtain ⟨v,h6,h7⟩:=hy.rd i' j h1 h2
  have:=hlt i' j k h1 h2
  refine ⟨v,?_,h7⟩
  show σ' w.heap.size _=_
  rw [h4 _ (by omega),hg2 _ this,h6]
theorem aD9 {tk:Nat→Option (Nat×Nat)} {i:Nat} {e:Nat×Nat} (h:tk i=some e):(fun j=>bif Nat.beq j i then some e else tk j)=tk:=by
 funext j
 cases hj:Nat.beq j i with
 | false=>rfl
 | true=>rw [Nat.eq_of_beq_eq_true hj,h]; rfl
theorem aAW (m:Mem F B np w0 ext σ0 G hp tk w) {x y:Value} {tg:Tag} {z' n k:Nat} {g h:Nat→List D} {i:TypeInfo} {zv:Value} {t u ty e:TypeId} {du:TypeDesc} {news:List Value} (ht:P.underlying t=some (.slice e)) (hu:P.underlying u=some du) (hdu:kS du=true)
  (hi:P.info? e=some i) (hz:i.zero=some zv) (hb:0 < i.bytes) (hzs:zv.cells.size=i.size) (hx:Rd F G tk x (.slice tg z' n g)) (hy:Src P w G.σ i.size k y h news) {id nn:Nat} (hn:0 < nn) (fr:Free hp tk id (id+nn))
  {v:D} {u':Upd} (hh:(cU id i.size i.bytes tk tg z' n g k h).holds v u') :
  Does F B np w0 ext σ0 G hp tk (((Builtin.append_ #[t,u] ty #[x,y]).run P w).andThen fun v w=>.ok (.value v) w) id nn v u':=by
 unfold cU at hh
 cases hzz:Nat.beq z' i.size with
 | false=>rw [hzz] at hh; exact (aD hh).elim
 | true =>
 rw [hzz] at hh
 have:=Nat.eq_of_beq_eq_true hzz
 subst this
 simp only [Bool.not_true,cond_false] at hh
 obtain ⟨hxp,hxt⟩:=hx.slice_inv
 obtain ⟨base,c,rfl⟩:∃ base c,x=.slice base n c:=by cases hxp; exact ⟨_,_,rfl⟩
 have hnc:n≤c:=by cases hxp; assumption
 have tagOwn:∀ (G':Gh) (tk':Nat→Option (Nat×Nat)) (q m':Nat) (v':Value),tk' q=some (i.size,m')→G'.ρ q=v'→TagR G' tk' v' (.slice (.own q) i.size m' (c9 g n h)):=by
  intro G' tk' q m' v' h1 h2 z2 m2 h3
  rw [h1] at h3
  cases h3
  exact ⟨Nat.le_refl _,fun _=>h2.symm⟩
 cases tg with
 | ro=>exact (aD hh).elim
 | full =>
  obtain ⟨hroom,rfl,rfl⟩:=aW hh
  obtain ⟨a,ha⟩:=hxt
  cases ha
  by_cases hk:k=0
  ·subst hk
   have hnews:news=[]:=by have:=hy.len; simpa using this
   subst hnews
   have hrun:=gL (ty:=ty) ht hu hdu hi base n n 0 y [] hy.lenOf (hy.run w rfl) (Nat.le_refl _)
   have m2:=m.addTok id i.size n n base (Nat.le_refl _) (fun h=>by omega) (fun id' f cs' h6 j hj h7=>by
    obtain ⟨_,_,_,hF⟩:=fr.nohp ⟨Nat.le_refl _,by omega⟩ id' f cs' h6 j hj h7
    exact hF.elim)
   refine ⟨w,.value (.slice base n n),_,_,?_,.inl rfl,m2,.any (.cell (.pure ?_ (tagOwn _ _ _ _ _ (by simp [bX]) (by simp)))),qC ⟨Nat.le_refl _,by omega⟩ (SgLe.refl _) _ _⟩
   ·rw [hrun]
    cases base <;> simp [storeCells]
   ·cases hxp with
    | slice _ _ _ _ _ _ b o val h1 h2 h3 h4 h5 =>
     exact .slice _ n n _ i.size _ b o val h1 h2 (fun i' hi'=>by rw [gW hi']; exact h3 i' hi') h4 (fun i' j hi' hj=>by rw [gW hi']; exact h5 i' j hi' hj)
  ·obtain ⟨w',v',G',h1,h2,h3,h4,h5,hη,h6⟩:=y6 (ty:=ty) m ht hu hdu hi hz hb hzs base n hxp hy (by omega) hroom id (fun id' f cs' h6 j hj h7=>by
    obtain ⟨_,_,_,hF⟩:=fr.nohp ⟨Nat.le_refl _,by omega⟩ id' f cs' h6 j hj h7
    exact hF.elim)
   refine ⟨w',.value v',v',G',by rw [h1]; rfl,.inl rfl,h2,.any (.cell (.pure h3 (tagOwn _ _ _ _ _ (by simp [bX]) (by rw [h6]; simp)))),?_⟩
   have:=qC (G:=G) (tk:=tk) (lo:=id) (hi:=id+nn) (i:=id) ⟨Nat.le_refl _,by omega⟩ h4 v' (i.size,n+k)
   refine ⟨h4,fun j hj=>by rw [h5],fun j z m hj hz=>?_,fun _ _ _ _ e=>by rw [hη]; exact e⟩
   rw [h6]
   exact this.tok j z m hj hz
 | own q =>
  simp only at hh
  cases htk:tk q with
  | none=>rw [htk] at hh; exact (aD hh).elim
  | some en =>
   obtain ⟨z1,n1⟩:=en
   rw [htk] at hh
   simp only at hh
   cases hzz2:Nat.beq z1 i.size with
   | false=>rw [hzz2] at hh; exact (aD hh).elim
   | true =>
   rw [hzz2] at hh
   have:=Nat.eq_of_beq_eq_true hzz2
   subst this
   simp only [cond_true] at hh
   obtain ⟨⟨rfl,hroom⟩,rfl,rfl⟩:=aW hh
   have hρ:G.ρ q=.slice base n1 c:=((hxt i.size n1 htk).2 rfl).symm
   have hqf:¬(id≤q∧q < id+nn):=fr.tk q _ htk
   rcases Nat.lt_or_ge c (n1+k) with hfit | hfit
   ·obtain ⟨w',v',G',h1,h2,h3,h4,h5,hη,h6⟩:=y6 (ty:=ty) m ht hu hdu hi hz hb hzs base c hxp hy hfit hroom q (fun id' f cs' h6 j hj h7=>⟨_,_,htk,by omega⟩)
    refine ⟨w',.value v',v',G',by rw [h1]; rfl,.inl rfl,h2,.any (.cell (.pure h3 (tagOwn _ _ _ _ _ (by simp [bX]) (by rw [h6]; simp)))),?_⟩
    refine ⟨h4,fun j hj=>by rw [h5],fun j z m hj hz=>?_,fun _ _ _ _ e=>by rw [hη]; exact e⟩
    rcases aN hz with ⟨rfl,hxx⟩ | ⟨h7,h8⟩
    ·cases hxx
     exact ⟨_,_,htk,by omega,fun h9=>by omega⟩
    ·refine ⟨z,m,h8,Nat.le_refl _,fun _=>?_⟩
     rw [h6]
     simp only
     rw [if_neg h7]
   ·by_cases hk:k=0
    ·subst hk
     have hnews:news=[]:=by have:=hy.len; simpa using this
     subst hnews
     have hrun:=gL (ty:=ty) ht hu hdu hi base n1 c 0 y [] hy.lenOf (hy.run w rfl) (by omega)
     have hself:bX tk [(q,i.size,n1+0)]=tk:=aD9 htk
     refine ⟨w,.value (.slice base n1 c),.slice base n1 c,G,?_,.inl rfl,?_,.any (.cell (.pure ?_ (tagOwn _ _ _ _ _ (by simp [bX]) hρ))),?_⟩
     ·rw [hrun]
      cases base <;> simp [storeCells]
     ·simp only [hself]
      exact m
     ·cases hxp with
      | slice _ _ _ _ _ _ b o val h1 h2 h3 h4 h5 =>
       exact .slice _ n1 c _ i.size _ b o val h1 h2 (fun i' hi'=>by rw [gW hi']; exact h3 i' hi') h4 (fun i' j hi' hj=>by rw [gW hi']; exact h5 i' j hi' hj)
     ·simp only [hself]
      exact Keeps.refl _ _ _ _
    ·obtain ⟨a0,c0,e0,hnc0,htail⟩:=m.toks q i.size n1 htk
     rw [hρ] at e0
     cases e0
     obtain ⟨b,cur,et,rfl,hb2,hcs,hσ⟩:=htail (by omega)
     have hmul:(n1+k) * i.size=n1 * i.size+k * i.size:=Nat.add_mul _ _ _
     have hle2:(n1+k) * i.size≤c * i.size:=Nat.mul_le_mul_right _ hfit
     have hnl:=hy.len
     have hrun:=gL (ty:=ty) ht hu hdu hi (some ⟨b,0,none⟩) n1 c k y news hy.lenOf (hy.run w rfl) hfit
     simp only [cQ,Nat.zero_add] at hrun
     have hst:=run_storeCells_at (P:=P) b (n1 * i.size) et news 0 cur w hb2 (by omega) hy.one
     simp only [Nat.add_zero] at hst
     obtain ⟨cur',hcur'⟩:∃ cur',cur'=(cur.toList.take (n1 * i.size)++news++cur.toList.drop (n1 * i.size+news.length)).toArray:=⟨_,rfl⟩
     rw [← hcur'] at hst
     have hcl:cur.toList.length=cur.size:=by simp
     have hsz:cur'.size=cur.size:=by
      rw [hcur']
      simp only [List.size_toArray,List.length_append,List.length_take,List.length_drop,hcl]
      omega
     have hg1:∀ o,o < n1 * i.size→cur'[o]? = cur[o]?:=by
      intro o ho
      rw [hcur']
      simp only [List.getElem?_toArray,List.append_assoc]
      rw [List.getElem?_append_left (by rw [List.length_take,hcl]; omega),List.getElem?_take_of_lt ho]
      simp
     have hg2:∀ o,o < k * i.size→cur'[n1 * i.size+o]? = news[o]?:=by
      intro o ho
      rw [hcur']
      simp only [List.getElem?_toArray,List.append_assoc]
      have h1:(cur.toList.take (n1 * i.size)).length=n1 * i.size:=by rw [List.length_take,hcl]; omega
      rw [List.getElem?_append_right (by omega),h1,show n1 * i.size+o - n1 * i.size=o from by omega,List.getElem?_append_left (by omega)]
     obtain ⟨m2,hle⟩:=m.growTok q i.size n1 k c b cur cur' et news htk hρ hfit (by omega) hb2 hcs (gX w b cur') (setRow_heap w b cur cur' et (0,0) hb2) hsz hnl hy.one hg1 hg2
     have hlt:∀ i' j n':Nat,i' < n'→j < i.size→i' * i.size+j < n' * i.size:=by
      intro i' j n' h1 h2
      have:(i'+1) * i.size≤n' * i.size:=Nat.mul_le_mul_right _ h1
      rw [Nat.add_mul] at this
      omega
     refine ⟨_,.value (.slice (some ⟨b,0,none⟩) (n1+k) c),_,_,?_,.inl rfl,m2,.any (.cell (.pure ?_ (tagOwn _ _ _ _ _ (by simp [bX]) (by simp)))),?_⟩
     ·rw [hrun,hst]
      rfl
     ·refine Rp.all hfit (yZ (by cases hxp; assumption) hy.el) (aC1 hle (fun i' j h1 h2=>?_) (fun i' j h1 h2=>?_))
      ·cases hxp with
       | slice _ _ _ _ _ _ b3 o3 val g1 g2 g3 g4 g5 =>
        have:=g2 (by omega)
        cases this
        refine ⟨val i' j,?_,g5 i' j h1 h2⟩
        have h6:=g4 i' j h1 h2
        rw [Nat.zero_add] at h6
        exact hle _ _ _ h6
      ·obtain ⟨v,h6,h7⟩:=hy.rd i' j h1 h2
       have:=hlt i' j k h1 h2
       refine ⟨v,?_,h7⟩
       simp only
       rw [if_pos ⟨trivial,by omega,by omega⟩,hg2 _ this,h6]
     ·refine ⟨hle,fun _ _=>rfl,fun j z m hj hz=>?_,fun _ _ _ _ e=>e⟩
      rcases aN hz with ⟨rfl,hxx⟩ | ⟨h7,h8⟩
      ·cases hxx
       exact ⟨_,_,htk,Nat.le_add_right _ _,fun h9=>absurd h9 (Nat.ne_of_lt (Nat.lt_add_of_pos_right (Nat.pos_of_ne_zero hk)))⟩
      ·exact ⟨z,m,h8,Nat.le_refl _,fun _=>by simp only; rw [if_neg h7]⟩
theorem aG9 {σ:Sg} {a:Option Addr} {z n c:Nat} {g:Nat→List D} (hnc:n≤c) (hrow:∀ b,a=some ⟨b,0,none⟩→0 < c→∃ o,w.heap[b]? = some o∧RowO σ o z n c g) (hblk:0 < c→∃ b,a=some ⟨b,0,none⟩) :
  ∃ olds:List Value,olds.length=n * z∧(∀ w2:World,w2.heap=w.heap→(Builtin.firstCells z n (.slice a n c)).run P w2=.ok olds.toArray w2) ∧
   ∀ i,i < n→(g i).length=z∧∀ j,j < z→∃ v,olds[i * z+j]? = some v∧v.oneCell'=true∧Rp σ v (nth (g i) j .dead).pure1:=by
 by_cases hn:n=0
 ·subst hn
  refine ⟨[],by simp,fun w2 _=>?_,fun i hi=>by omega⟩
  cases a with
  | none=>simp [Builtin.firstCells]
  | some ad=>simp [Builtin.firstCells,loadCells,loadCellsFrom]
 ·obtain ⟨b,rfl⟩:=hblk (by omega)
  obtain ⟨o,h1,cur,e,rfl,h2,h3⟩:=hrow b rfl (by omega)
  have hnz:n * z≤c * z:=Nat.mul_le_mul_right _ hnc
  refine ⟨(List.range (n * z)).map fun q=>cur.getD q undef,by simp,fun w2 hw2=>?_,fun i hi=>⟨(h3 i hi).1,fun j hj=>?_⟩⟩
  ·have:=run_loadCells (P:=P) w2 ⟨b,0,none⟩ (n * z) (fun q=>cur.getD q undef) (fun q hq=>by
    rw [cQ,cell_of_row w2 _ _ cur e _ (by rw [hw2]; exact h1)]
    have:q < cur.size:=by omega
    simp [this])
   simpa [Builtin.firstCells] using this
  ·have:(i+1) * z≤n * z:=Nat.mul_le_mul_right _ hi
   rw [Nat.add_mul] at this
   have hlt:i * z+j < n * z:=by omega
   exact ⟨_,by simp [hlt],((h3 i hi).2 j hj).1,((h3 i hi).2 j hj).2⟩
theorem aHQ (m:Mem F B np w0 ext σ0 G hp tk w) {x y:Value} {r n k:Nat} {h:Nat→List D} {i:TypeInfo} {zv:Value} {t u ty e:TypeId} {du:TypeDesc} {news:List Value} (ht:P.underlying t=some (.slice e)) (hu:P.underlying u=some du) (hdu:kS du=true)
  (hi:P.info? e=some i) (hz:i.zero=some zv) (hb:0 < i.bytes) (hzs:zv.cells.size=i.size) (hx:Rd F G tk x (.msl r i.size n)) (hy:Src P w G.σ i.size k y h news) {id nn:Nat}
  {v:D} {u':Upd} (hh:(qI r i.size n k i.bytes h (hp r)).holds v u') :
  Does F B np w0 ext σ0 G hp tk (((Builtin.append_ #[t,u] ty #[x,y]).run P w).andThen fun v w=>.ok (.value v) w) id nn v u':=by
 unfold qI at hh
 split at hh
 ·rename_i z1 n1 g hr
  cases hzz:Nat.beq z1 i.size with
  | false=>rw [hzz] at hh; exact (aD hh).elim
  | true =>
  rw [hzz] at hh
  obtain ⟨⟨rfl,hroom⟩,rfl,rfl⟩:=aW hh
  have:=Nat.eq_of_beq_eq_true hzz
  subst this
  obtain ⟨a,c,rfl,hη,hnc,ha⟩:=hx.msl_inv
  obtain ⟨a1,c1,hd,hrow⟩:=m.rows r true i.size n1 g hr
  have h1:=hd.at_
  rw [hη] at h1
  cases h1
  have hmine:r < np→n1+k=n1:=fun hlt=>by
   have:=(hd.mine hlt).1
   cases this
  have hlt:∀ i' j n':Nat,i' < n'→j < i.size→i' * i.size+j < n' * i.size:=by
   intro i' j n' h1 h2
   have:(i'+1) * i.size≤n' * i.size:=Nat.mul_le_mul_right _ h1
   rw [Nat.add_mul] at this
   omega
  have hmul:(n1+k) * i.size=n1 * i.size+k * i.size:=Nat.add_mul _ _ _
  have hnl:=hy.len
  have hyone:∀ p,p < k * i.size→∃ v,news[p]? = some v∧v.oneCell'=true:=fun p hp=>by
   have:p < news.length:=by omega
   exact ⟨news[p],List.getElem?_eq_getElem this,hy.one _ (List.getElem_mem this)⟩
  obtain ⟨olds,hol,hold,hoe⟩:=aG9 (P:=P) (w:=w) hnc (fun b hb hc=>(hrow b hb hc).2) hd.blk
  -- the elements of the new block
  have rowOf:∀ (cells:Array Value) (cap:Nat) (et:TypeId),cells.size=cap * i.size→(∀ p,p < n1 * i.size→cells[p]? = olds[p]?)→(∀ p,p < k * i.size→cells[n1 * i.size+p]? = news[p]?)→RowO G.σ (.cells cells et (0,0)) i.size (n1+k) cap (c9 g n1 h):=by
   intro cells cap et h1 h2 h3
   refine ⟨cells,et,rfl,h1,fun p hp=>?_⟩
   by_cases hpn:p < n1
   ·rw [gW hpn]
    refine ⟨(hoe p hpn).1,fun j hj=>?_⟩
    obtain ⟨v,e1,e2,e3⟩:=(hoe p hpn).2 j hj
    have e4:=h2 (p * i.size+j) (hlt p j n1 hpn hj)
    rw [e1] at e4
    have e5:cells.getD (p * i.size+j) undef=v:=by simp [Array.getD_eq_getD_getElem?,e4]
    rw [e5]
    exact ⟨e2,e3⟩
   ·rw [rT (by omega)]
    refine ⟨hy.el _ (by omega),fun j hj=>?_⟩
    obtain ⟨v,e1,e2⟩:=hy.rd (p - n1) j (by omega) hj
    have e0:=hlt (p - n1) j k (by omega) hj
    have e4:=h3 ((p - n1) * i.size+j) e0
    have e6:n1 * i.size+((p - n1) * i.size+j)=p * i.size+j:=by
     rw [← Nat.add_assoc,← Nat.add_mul]
     congr 2
     omega
    rw [e6,e1] at e4
    have e5:cells.getD (p * i.size+j) undef=v:=by simp [Array.getD_eq_getD_getElem?,e4]
    rw [e5]
    refine ⟨?_,e2⟩
    have:=hy.one v (List.mem_of_getElem? e1)
    exact this
  rcases Nat.lt_or_ge c (n1+k) with hfit | hfit
  ·have hrun:=pS (ty:=ty) ht hu hdu hi hz hb a n1 c k y olds news hy.lenOf (hy.run w.drew rfl) (hold w.drew rfl) hfit hroom
   have hcap:=grownCap_ge w (n1+k) c e
   generalize grownCap w (n1+k) c e=cap at hrun hcap
   obtain ⟨cells,hcells⟩:∃ cells,cells=olds.toArray++news.toArray++Builtin.zeroCells zv.cells (cap - (n1+k)):=⟨_,rfl⟩
   rw [← hcells] at hrun
   have hsz:cells.size=cap * i.size:=by
    rw [hcells]
    simp only [Array.size_append,List.size_toArray,size_zeroCells,hol,hy.len,hzs,← Nat.add_mul]
    congr 1
    omega
   have hg1:∀ o,o < n1 * i.size→cells[o]? = olds[o]?:=by
    intro o ho
    rw [hcells,Array.append_assoc,Array.getElem?_append,if_pos (by simp; omega)]
    simp
   have hg2:∀ o,o < k * i.size→cells[n1 * i.size+o]? = news[o]?:=by
    intro o ho
    rw [hcells,Array.append_assoc,Array.getElem?_append,if_neg (by simp; omega),Array.getElem?_append,if_pos (by simp; omega)]
    simp [hol]
   obtain ⟨m2,k2⟩:=m.setArr (w':=w.drew.alloc (.cells cells e)) hr hη (z':=i.size) (n':=n1+k) (c':=cap) (a':=some ⟨w.heap.size,0,none⟩) (g':=c9 g n1 h)
    rfl rfl rfl (by simp) (fun p hp _=>Go.heap_alloc_old w.drew _ (r:=p) hp) (Nat.le_add_right _ _) hcap (fun hk=>by omega) hmine
    (fun _=>⟨w.heap.size,rfl,.inr (Nat.le_refl _),_,heap_alloc_new w.drew _,rowOf cells cap e hsz hg1 hg2⟩) id (id+nn)
   refine ⟨_,.value _,_,_,by rw [hrun]; rfl,.inl rfl,m2,.msl r i.size (n1+k) _ cap (by simp) hcap (fun _=>⟨_,rfl⟩),k2⟩
  ·by_cases hk:k=0
   ·subst hk
    have hnews:news=[]:=by simpa using hnl
    subst hnews
    have hrun:=gL (ty:=ty) ht hu hdu hi a n1 c 0 y [] hy.lenOf (hy.run w rfl) hfit
    obtain ⟨m2,k2⟩:=m.setArr (w':=w) hr hη (z':=i.size) (n':=n1+0) (c':=c) (a':=a) (g':=c9 g n1 h)
     rfl rfl rfl (Nat.le_refl _) (fun p hp _=>rfl) (Nat.le_add_right _ _) hfit (fun hk=>⟨rfl,rfl⟩) hmine
     (fun hc=>by
      obtain ⟨b,hb⟩:=hd.blk hc
      obtain ⟨_,o,h1,cur,et,rfl,h2,h3⟩:=hrow b hb hc
      refine ⟨b,hb,.inl ⟨hc,hb⟩,_,h1,cur,et,rfl,h2,fun p hp=>?_⟩
      rw [gW (by omega)]
      exact h3 p (by omega)) id (id+nn)
    refine ⟨w,.value (.slice a n1 c),.slice a n1 c,_,?_,.inl rfl,m2,.msl r i.size n1 a c (by simp [hη]) hnc ha,k2⟩
    rw [hrun]
    cases a <;> simp [storeCells]
   ·obtain ⟨b,rfl⟩:=hd.blk (by omega)
    obtain ⟨_,o,hb2,cur,et,rfl,hcs,he3⟩:=hrow b rfl (by omega)
    have hle2:(n1+k) * i.size≤c * i.size:=Nat.mul_le_mul_right _ hfit
    have hrun:=gL (ty:=ty) ht hu hdu hi (some ⟨b,0,none⟩) n1 c k y news hy.lenOf (hy.run w rfl) hfit
    simp only [cQ,Nat.zero_add] at hrun
    have hst:=run_storeCells_at (P:=P) b (n1 * i.size) et news 0 cur w hb2 (by omega) hy.one
    simp only [Nat.add_zero] at hst
    have hsz:=lP cur (n1 * i.size) news (by omega)
    have hget:=nR cur (n1 * i.size) news (by omega)
    generalize (cur.toList.take (n1 * i.size)++news++cur.toList.drop (n1 * i.size+news.length)).toArray=cur' at hst hsz hget
    have hw:=gX w b cur'
    obtain ⟨m2,k2⟩:=m.setArr (w':=w.setRow b cur') hr hη (z':=i.size) (n':=n1+k) (c':=c) (a':=some ⟨b,0,none⟩) (g':=c9 g n1 h)
     hw.os hw.tape hw.output (Nat.le_of_eq hw.size.symm) (fun p _ hp=>hw.other p (hp b rfl (by omega))) (Nat.le_add_right _ _) hfit (fun hk=>⟨rfl,rfl⟩) hmine
     (fun hcp=>⟨b,rfl,.inl ⟨hcp,rfl⟩,_,setRow_heap w b cur cur' et _ hb2,cur',et,rfl,by rw [hsz]; exact hcs,fun p hp=>by
      by_cases hpn:p < n1
      ·rw [gW hpn]
       refine ⟨(he3 p hpn).1,fun j hj=>?_⟩
       have:=hlt p j n1 hpn hj
       rw [hget,if_neg (by omega)]
       exact (he3 p hpn).2 j hj
      ·rw [rT (by omega)]
       refine ⟨hy.el _ (by omega),fun j hj=>?_⟩
       obtain ⟨v,e1,e2⟩:=hy.rd (p - n1) j (by omega) hj
       have e0:=hlt (p - n1) j k (by omega) hj
       have e6:n1 * i.size+((p - n1) * i.size+j)=p * i.size+j:=by
        rw [← Nat.add_assoc,← Nat.add_mul]
        congr 2
        omega
       rw [hget,if_pos (by omega),show p * i.size+j - n1 * i.size=(p - n1) * i.size+j from by omega]
       have e5:news.getD ((p - n1) * i.size+j) undef=v:=by rw [List.getD_eq_getElem?_getD,e1]; rfl
       rw [e5]
       exact ⟨hy.one v (List.mem_of_getElem? e1),e2⟩⟩) id (id+nn)
    refine ⟨_,.value (.slice (some ⟨b,0,none⟩) (n1+k) c),_,_,?_,.inl rfl,m2,.msl r i.size (n1+k) _ c (by simp) hfit (fun _=>⟨_,rfl⟩),k2⟩
    rw [hrun,hst]
    rfl
 ·exact (aD hh).elim
theorem yU (m:Mem F B np w0 ext σ0 G hp tk w) {x y:Value} {d d':D} {i:TypeInfo} {zv:Value} {ds:List D} {t u ty e:TypeId} {du:TypeDesc} (ht:P.underlying t=some (.slice e)) (hu:P.underlying u=some du) (hdu:kS du=true)
  (hi:P.info? e=some i) (hz:i.zero=some zv) (hds:cM zv.cells.toList=some ds) (hb:0 < i.bytes) (hlen:ds.length=i.size) (hx:Rd F G tk x d) (hy:Rd F G tk y d') {id nn:Nat} (hn:0 < nn) (fr:Free hp tk id (id+nn))
  {v:D} {u':Upd} (hh:(aT (.append i.size i.bytes) id hp tk [d,d']).holds v u') :
  Does F B np w0 ext σ0 G hp tk (((Builtin.append_ #[t,u] ty #[x,y]).run P w).andThen fun v w=>.ok (.value v) w) id nn v u':=by
 have hzs:zv.cells.size=i.size:=by have:=dR hds; simp at this; omega
 cases d with
 | slice tg z n g =>
  cases d' with
  | slice t' z' k h =>
   simp only [aT] at hh
   cases hzz:Nat.beq z' i.size with
   | false=>rw [hzz] at hh; exact (aD hh).elim
   | true =>
    rw [hzz] at hh
    have:=Nat.eq_of_beq_eq_true hzz
    subst this
    obtain ⟨news,hs⟩:=p9 (P:=P) m hy.slice_inv.1
    exact aAW m ht hu hdu hi hz hb hzs hx hs hn fr hh
  | str b =>
   simp only [aT] at hh
   cases hzz:Nat.beq i.size 1 with
   | false=>rw [hzz] at hh; exact (aD hh).elim
   | true =>
    rw [hzz] at hh
    have h1:=Nat.eq_of_beq_eq_true hzz
    have:=hy.str_inv
    subst this
    obtain ⟨news,hs⟩:=aG1 (P:=P) w G.σ b
    rw [← h1] at hs
    exact aAW m ht hu hdu hi hz hb hzs hx hs hn fr hh
  | _=>exact (aD hh).elim
 | msl r z n =>
  cases d' with
  | slice t' z' k h =>
   simp only [aT] at hh
   cases hzz:(Nat.ble 1000000 id&&Nat.beq z i.size&&Nat.beq z' i.size) with
   | false=>rw [hzz] at hh; exact (aD hh).elim
   | true =>
    rw [hzz] at hh
    obtain ⟨q1,q2⟩:=gR hzz
    obtain ⟨_,q3⟩:=gR q1
    have:=Nat.eq_of_beq_eq_true q2
    subst this
    have:=Nat.eq_of_beq_eq_true q3
    subst this
    obtain ⟨news,hs⟩:=p9 (P:=P) m hy.slice_inv.1
    exact aHQ m ht hu hdu hi hz hb hzs hx hs hh
  | _=>exact (aD hh).elim
 | _=>exact (aD hh).elim
end
section
variable {P:Program} {F:Nat→FuncId} {B np:Nat} {w0 w w':World} {ext:List Nat} {σ0:Og} {G G':Gh} {hp:Nat→Option (Bool×List D)} {tk tk':Nat→Option (Nat×Nat)}
inductive kA (F:Nat→FuncId) (G:Gh) (tk:Nat→Option (Nat×Nat)) (place:Nat→Option (Nat×Nat)):List (Nat×Value)→List (Nat×Nat)→List D→Prop
 | nil:kA F G tk place [] [] []
 | cons {i:Nat} {v:Value} {q:Nat×Nat} {d:D} {ps:List (Nat×Value)} {qs:List (Nat×Nat)} {ds:List D}:place i=some q→Rd F G tk v d→kA F G tk place ps qs ds→kA F G tk place ((i,v)::ps) (q::qs) (d::ds)
theorem aCV (off:Nat):∀ (l:List Value) (s:Nat) (cells:Array Value),((l.zipIdx s).foldl (fun cs p=>cs.setIfInBounds (off+p.2) p.1) cells).size=cells.size ∧
  ∀ k,((l.zipIdx s).foldl (fun cs p=>cs.setIfInBounds (off+p.2) p.1) cells).getD k undef=if off+s≤k∧k < off+s+l.length∧k < cells.size then l.getD (k - (off+s)) undef else cells.getD k undef
 | [],s,cells=>by
  refine ⟨rfl,fun k=>?_⟩
  rw [if_neg (by simp; omega)]
  rfl
 | v::l,s,cells=>by
  obtain ⟨h1,h2⟩:=aCV off l (s+1) (cells.setIfInBounds (off+s) v)
  simp only [List.zipIdx_cons,List.foldl_cons]
  refine ⟨by rw [h1]; simp,fun k=>?_⟩
  rw [h2 k]
  simp only [Array.size_setIfInBounds,List.length_cons]
  by_cases hc:off+(s+1)≤k∧k < off+(s+1)+l.length∧k < cells.size
  ·rw [if_pos hc,if_pos (by omega),show k - (off+s)=(k - (off+(s+1)))+1 from by omega]
   rfl
  ·rw [if_neg hc]
   by_cases hk:k=off+s
   ·subst hk
    by_cases hlt:off+s < cells.size
    ·rw [if_pos (by omega)]
     simp [Array.getD_eq_getD_getElem?,hlt]
    ·rw [if_neg (by omega)]
     simp [Array.getD_eq_getD_getElem?,hlt]
   ·rw [if_neg (by omega)]
    have:(cells.setIfInBounds (off+s) v).getD k undef=cells.getD k undef:=by
     simp [Array.getD_eq_getD_getElem?,Array.getElem?_setIfInBounds_ne (Ne.symm hk)]
    rw [this]
theorem sJ {place:Nat→Option (Nat×Nat)} {ps:List (Nat×Value)} {qs:List (Nat×Nat)} {xs:List D} (h:kA F G tk place ps qs xs):∀ (cells:Array Value) (ds l:List D),fill ds qs xs=some l→cells.size=ds.length →
  (∀ j,j < ds.length→Rc F G tk (cells.getD j undef) (nth ds j .dead))→∃ cells',Instr.fill place cells ps=some cells'∧cells'.size=l.length∧l.length=ds.length∧∀ j,j < l.length→Rc F G tk (cells'.getD j undef) (nth l j .dead):=by
 induction h with
 | nil =>
  intro cells ds l hf hs hr
  cases hf
  exact ⟨cells,rfl,hs,rfl,hr⟩
 | @cons i v q d ps qs ds' hp hd _ ih =>
  intro cells ds l hf hs hr
  obtain ⟨off,size⟩:=q
  simp only [fill] at hf
  cases hb:(aG d.cells&&Nat.beq d.cells.length size&&Nat.ble (off+size) ds.length) with
  | false=>rw [hb] at hf; cases hf
  | true =>
   rw [hb] at hf
   simp only [cond_true] at hf
   simp only [Bool.and_eq_true] at hb
   obtain ⟨⟨hsol,hlen⟩,hle⟩:=hb
   have hlen:=Nat.eq_of_beq_eq_true hlen
   have hle:=Nat.le_of_ble_eq_true hle
   obtain ⟨hvs,hvr⟩:=hd.cells hsol
   have hfold:=aCV off v.cells.toList 0 cells
   have hconv:v.cells.zipIdx.foldl (fun cs (x:Value×Nat)=>cs.setIfInBounds (off+x.2) x.1) cells=((v.cells.toList.zipIdx 0).foldl (fun cs p=>cs.setIfInBounds (off+p.2) p.1) cells):=by
    rw [← Array.foldl_toList,Array.toList_zipIdx]
   obtain ⟨cells',h1,h2,h3,h4⟩:=ih (v.cells.zipIdx.foldl (fun cs (x:Value×Nat)=>cs.setIfInBounds (off+x.2) x.1) cells) (dI ds off d.cells) l hf (by rw [hconv,hfold.1,dF,hs]) (fun j hj=>by
    rw [dF] at hj
    rw [hconv,hfold.2 j,kC]
    have hvl:v.cells.toList.length=d.cells.length:=by simpa using hvs
    simp only [Nat.add_zero,hvl]
    by_cases hc:off≤j∧j < off+d.cells.length∧j < ds.length
    ·rw [if_pos hc,if_pos ⟨hc.1,hc.2.1,by omega⟩,← bB]
     exact hvr _ (by omega)
    ·rw [if_neg hc,if_neg (by omega)]
     exact hr j hj)
   refine ⟨cells',?_,h2,by rw [h3,dF],h4⟩
   have hg:¬(v.cells.size≠size∨off+v.cells.size > cells.size):=by omega
   simp only [Instr.fill,hp]
   rw [if_neg (by simpa using hg)]
   exact h1
theorem aGM (n:Nat) (z:List D) (j:Nat) (hz:0 < z.length) (hj:j < n * z.length):nth (rep n z) j .dead=nth z (j % z.length) .dead:=by
 induction n generalizing j with
 | zero=>omega
 | succ n ih =>
  simp only [rep,hZ]
  rw [Nat.add_mul,Nat.one_mul] at hj
  split
  ·rename_i h
   rw [Nat.mod_eq_of_lt h]
  ·rename_i h
   rw [ih _ (by omega)]
   congr 1
   exact (Nat.mod_eq_sub_mod (by omega)).symm
theorem n4 (n:Nat) (z:List D):(rep n z).length=n * z.length:=by
 induction n with
 | zero=>simp [rep]
 | succ n ih=>simp [rep,ih,Nat.add_mul,Nat.add_comm]
theorem tO (m:Mem F B np w0 ext σ0 G hp tk w) {t:TypeId} {i:TypeInfo} {zv:Value} {zs:List D} {place:Nat→Option (Nat×Nat)} (ps:Array (Nat×Value)) (qs:List (Nat×Nat)) (xs:List D) (hi:P.info? t=some i) (hz:i.zero=some zv)
  (hds:cM zv.cells.toList=some zs) (hb:∀ cells,Instr.fill place zv.cells ps.toList=some cells→P.built t ps.toList=some cells) (hp':kA F G tk place ps.toList qs xs) {id nn:Nat} {v:D} {u:Upd}
  {nz:List Nat} (hh:(aT (.build (eK zs nz) qs) id hp tk xs).holds v u):Does F B np w0 ext σ0 G hp tk (((Instr.build t ps).run P w).andThen fun v w=>.ok (.value v) w) id nn v u:=by
 have hh':(match fill (eK zs nz) qs xs with | some l=>Out.val (.agg (ros l)) | none=>.bad).holds v u:=by
  cases xs <;> exact hh
 cases hf:fill (eK zs nz) qs xs with
 | none=>rw [hf] at hh'; exact (aD hh').elim
 | some l =>
  rw [hf] at hh'
  obtain ⟨rfl,rfl⟩:=aE hh'
  have hl:=dR hds
  obtain ⟨cells,h1,h2,h3,h4⟩:=sJ hp' zv.cells (eK zs nz) l hf (by rw [cE]; simpa using hl) (fun j hj=>by
   rw [bB]
   exact lT (cX hds).2 nz j hj)
  refine Does.val m ?_ (by rw [run_build w t ps cells (hb _ h1)]; rfl) id nn
  refine .any (.agg cells (ros l) (by rw [h2,uD]) fun j hj=>?_)
  rw [uD] at hj
  rw [aHB]
  exact (h4 j hj).ro1
theorem rN (m:Mem F B np w0 ext σ0 G hp tk w) {t e:TypeId} {i:TypeInfo} {zv:Value} {zs:List D} {len:Nat} (ps:Array (Nat×Value)) (qs:List (Nat×Nat)) (xs:List D) (hu:P.underlying t=some (.slice e)) (hi:P.info? e=some i)
  (hz:i.zero=some zv) (hds:cM zv.cells.toList=some zs) (hsz:0 < i.size) (hsmall:len * i.size≤16777216) (hp':kA F G tk (fun k=>some (k * i.size,i.size)) ps.toList qs xs) {id nn:Nat} {v:D} {u:Upd}
  {nz:List Nat} (hh:(aT (.buildSlice i.size len (eK zs nz) qs) id hp tk xs).holds v u):Does F B np w0 ext σ0 G hp tk (((Instr.buildSlice t len ps).run P w).andThen fun v w=>.ok (.value v) w) id nn v u:=by
 have hzl0:=cE zs nz
 have hrc0:=lT (F:=F) (G:=G) (tk:=tk) (cX hds).2 nz
 have hl:zv.cells.toList.length=(eK zs nz).length:=by rw [hzl0]; exact dR hds
 generalize eK zs nz=zs at *
 have hh':(match fill (rep len zs) qs xs with | some l=>bif Nat.beq zs.length i.size&&aG l then Out.val (.slice .full i.size len (bif Nat.beq len 1 then fun _=>aJ l else fun j=>((aJ l).drop (j * i.size)).take i.size)) else .bad | none=>.bad).holds v u:=by
  cases xs <;> exact hh
 cases hf:fill (rep len zs) qs xs with
 | none=>rw [hf] at hh'; exact (aD hh').elim
 | some l =>
  rw [hf] at hh'
  simp only at hh'
  cases hb:(Nat.beq zs.length i.size&&aG l) with
  | false=>rw [hb] at hh'; exact (aD hh').elim
  | true =>
   rw [hb] at hh'
   simp only [Bool.and_eq_true] at hb
   obtain ⟨hzl,hsol⟩:=hb
   have hzl:=Nat.eq_of_beq_eq_true hzl
   obtain ⟨rfl,rfl⟩:=aE hh'
   have hl2:zv.cells.size=i.size:=by simp at hl; omega
   obtain ⟨c0,hc0⟩:∃ c0,c0=(Array.range (len * i.size)).map (zv.cells[· % zv.cells.size]!):=⟨_,rfl⟩
   have hc0s:c0.size=len * i.size:=by rw [hc0]; simp
   obtain ⟨cells,h1,h2,h3,h4⟩:=sJ hp' c0 (rep len zs) l hf (by rw [n4,hc0s,hzl]) (fun j hj=>by
    rw [n4,hzl] at hj
    rw [aGM _ _ _ (by omega) (by rw [hzl]; exact hj),hzl]
    have hm:j % i.size < zv.cells.size:=by rw [hl2]; exact Nat.mod_lt _ hsz
    have:c0.getD j undef=zv.cells.toList.getD (j % i.size) undef:=by
     rw [hc0]
     simp [Array.getD_eq_getD_getElem?,hj,hl2,List.getD]
     rw [getElem!_pos zv.cells (j % i.size) hm]
     simp [hm]
    rw [this]
    exact hrc0 _ (by omega))
   rw [n4,hzl] at h3
   have hget:∀ o,o < len * i.size→cells[o]? = some (cells.getD o undef):=by
    intro o ho
    have:o < cells.size:=by omega
    simp [this]
   obtain ⟨σ',m',hle,h5,h6⟩:=m.newStable cells e (0,0) (len * i.size) (fun o ho=>⟨_,hget o ho,(h4 o (by omega)).oneCell (hP hsol (by omega)) (j3 hsol)⟩)
   refine ⟨_,.value (.slice (some ⟨w.heap.size,0,none⟩) len len),_,_,?_,.inl rfl,m',.any (.cell (.pure ?_ ⟨_,rfl⟩)),⟨hle,fun _ _=>rfl,fun i z m _ h=>⟨z,m,h,Nat.le_refl _,fun _=>rfl⟩,fun _ _ _ _ e=>e⟩⟩
   ·have hti:∀ w:World,(typeInfo e).run P w=.ok i w:=fun w=>by simp [typeInfo,program,Sem.run,hi]
    have hso:∀ w:World,(sizeOf e).run P w=.ok i.size w:=fun w=>by simp [sizeOf,hti]
    have hzv:∀ w:World,(zeroValue e).run P w=.ok zv w:=fun w=>by simp [zeroValue,hti,hz]
    have hsm:¬(len * i.size > 2 ^ 24):=by omega
    by_cases h0:len * i.size=0
    ·have:c0=(Array.range (len * i.size)).map ((#[]:Array Value)[· % 0]!):=by
      rw [hc0,h0]
      simp
     rw [this] at h1
     simp only [Instr.buildSlice,Sem.run_bind,a8 hu,Result.andThen_ok,hso,Sem.run_ite,if_neg hsm,if_pos h0,Sem.run_pure,List.size_toArray,List.length_nil,h1,newRow,run_newObj]
     rfl
    ·rw [hc0] at h1
     simp only [Instr.buildSlice,Sem.run_bind,a8 hu,Result.andThen_ok,hso,Sem.run_ite,if_neg hsm,if_neg h0,Sem.run_pure,hzv,h1,newRow,run_newObj]
     rfl
   ·have hlt:∀ i' j:Nat,i' < len→j < i.size→i' * i.size+j < len * i.size:=by
     intro i' j h1 h2
     have:(i'+1) * i.size≤len * i.size:=Nat.mul_le_mul_right _ h1
     rw [Nat.add_mul] at this
     omega
    have hgl:∀ i' j:Nat,i' < len→j < i.size→nth ((bif Nat.beq len 1 then fun _=>aJ l else fun j=>((aJ l).drop (j * i.size)).take i.size) i') j .dead=(nth l (i' * i.size+j) .dead).pure1:=by
     intro i' j h7 h8
     cases hb1:Nat.beq len 1 with
     | true =>
      have:=Nat.eq_of_beq_eq_true hb1
      have:i'=0:=by omega
      subst this
      simp only [cond_true,aX,Nat.zero_mul,Nat.zero_add]
     | false =>
      simp only [cond_false]
      rw [jH _ _ _ h8,gK,aX]
    refine Rp.all (Nat.le_refl _) (fun i' h7=>?_) (fun i' j h7 h8=>?_)
    ·cases hb1:Nat.beq len 1 with
     | true =>
      have:=Nat.eq_of_beq_eq_true hb1
      subst this
      simp only [cond_true,aI]
      omega
     | false =>
      simp only [cond_false,List.length_take,List.length_drop,aI]
      have:=hlt i' (i.size - 1) h7 (by omega)
      omega
    ·have h9:=hlt i' j h7 h8
     refine ⟨cells.getD (i' * i.size+j) undef,?_,?_⟩
     ·show σ' w.heap.size _=_
      rw [Nat.zero_add,h5 _ h9,hget _ h9]
     ·rw [hgl i' j h7 h8,bH]
      exact ((h4 _ (by omega)).pure1).mono hle
def rO:Nat→Value→Value→Option Bool
 | 0,.int k a,.int k' b=>if k=k' then some (a==b) else none
 | 1,.bool a,.bool b=>some (a==b)
 | 2,.string a,.string b=>some (a.toList==b.toList)
 | _,_,_=>none
def eqv:List Nat→List Value→List Value→Option Bool
 | [],[],[]=>some true
 | c::cs,a::l,b::m=>match rO c a b,eqv cs l m with
  | some x,some y=>some (x&&y)
  | _,_=>none
 | _,_,_=>none
theorem aCY {c:Nat} {a b:Value} {d e:D} {r:Bool} (ha:Rc F G tk a d) (hb:Rc F G tk b e) (h:eqc c d e=some r):rO c a b=some r:=by
 unfold eqc at h
 split at h
 ·rename_i k x k' y
  cases hk:i9 k k' with
  | false=>rw [hk] at h; cases h
  | true =>
   rw [hk] at h
   have:=qD hk
   subst this
   cases h
   cases ha with | pure ha _=>cases hb with | pure hb _=>cases ha; cases hb; simp [rO]
 ·cases h
  cases ha with | pure ha _=>cases hb with | pure hb _=>cases ha; cases hb; rfl
 ·cases h
  cases ha with | pure ha _=>cases hb with | pure hb _=>cases ha; cases hb; rfl
 ·cases h
theorem aAI:∀ (cs:List Nat) (l m:List D) (r:Bool) (xs ys:List Value),aD0 cs l m=some r→xs.length=l.length→ys.length=m.length→(∀ j,j < l.length→Rc F G tk (xs.getD j undef) (nth l j .dead)) →
  (∀ j,j < m.length→Rc F G tk (ys.getD j undef) (nth m j .dead))→eqv cs xs ys=some r
 | cs,l,m,r,xs,ys,h,h1,h2,h3,h4=>by
  unfold aD0 at h
  split at h
  ·cases h
   simp only [List.length_nil,List.length_eq_zero_iff] at h1 h2
   subst h1 h2
   rfl
  ·rename_i c a b
   match xs,ys,h1,h2 with
   | [x],[y],_,_ =>
    have:=aCY (h3 0 (by simp)) (h4 0 (by simp)) h
    simp only [List.getD_cons_zero] at this
    simp [eqv,this]
  ·rename_i c cs a l b m _
   cases he:eqc c a b with
   | none=>rw [he] at h; cases h
   | some x =>
    rw [he] at h
    cases he2:aD0 cs l m with
    | none=>rw [he2] at h; cases h
    | some y =>
     rw [he2] at h
     cases h
     match xs,ys,h1,h2 with
     | x1::xs,y1::ys,h1,h2 =>
      have e1:=aCY (h3 0 (by simp)) (h4 0 (by simp)) he
      have e2:=aAI cs l m y xs ys he2 (by simpa using h1) (by simpa using h2) (fun j hj=>h3 (j+1) (by simpa using hj)) (fun j hj=>h4 (j+1) (by simpa using hj))
      simp only [List.getD_cons_zero] at e1
      simp [eqv,e1,e2]
  ·cases h
theorem j4:∀ {cs:List Nat} {l m:List Value} {r:Bool},eqv cs l m=some r→l.length=cs.length∧m.length=cs.length
 | [],[],[],_,_=>⟨rfl,rfl⟩
 | c::cs,a::l,b::m,r,h=>by
  simp only [eqv] at h
  split at h
  ·rename_i x y _ h2
   have:=j4 h2
   simp [this]
  ·cases h
 | [],_::_,_,_,h=>by simp [eqv] at h
 | [],[],_::_,_,h=>by simp [eqv] at h
 | _::_,[],_,_,h=>by simp [eqv] at h
 | _::_,_::_,[],_,h=>by simp [eqv] at h
theorem oI:∀ {c1 c2:List Nat} {l m:List Value} {r:Bool},eqv (c1++c2) l m=some r→∃ r1 r2,eqv c1 (l.take c1.length) (m.take c1.length)=some r1∧eqv c2 (l.drop c1.length) (m.drop c1.length)=some r2∧r=(r1&&r2)
 | [],c2,l,m,r,h=>⟨true,r,rfl,h,by simp⟩
 | c::c1,c2,a::l,b::m,r,h=>by
  simp only [List.cons_append,eqv] at h
  split at h
  ·rename_i x y h1 h2
   obtain ⟨r1,r2,h3,h4,rfl⟩:=oI h2
   cases h
   exact ⟨x&&r1,r2,by simp [eqv,h1,h3],h4,by simp [Bool.and_assoc]⟩
  ·cases h
 | _::_,_,[],_,_,h=>by simp [eqv] at h
 | _::_,_,_::_,[],_,h=>by simp [eqv] at h
def sT (P:Program) (t:TypeId) (v:Value) (l:List Value):Prop:=(bJ P t=some true∧v=.agg l.toArray)∨(bJ P t=some false∧l=[v])
theorem r7 {t:TypeId} {g:Bool} {n:Nat} (hg:bJ P t=some g) (hn:bV P t=some n) (h1:g=true∨n=1) (xs:Array Value) (off:Nat) (hl:((xs.toList.drop off).take n).length=n) :
  ∃ v,(part t xs off).run P w=.ok v w∧sT P t v ((xs.toList.drop off).take n):=by
 cases g with
 | true =>
  refine ⟨.agg (xs.extract off (off+n)),?_,.inl ⟨hg,?_⟩⟩
  ·simp only [part,Sem.run_bind,nC hg,Result.andThen_ok,if_true,cS hn,Sem.run_pure]
  ·congr 1
   apply Array.ext'
   rw [Array.toList_extract]
   simp [List.extract]
 | false =>
  rcases h1 with h1 | h1
  ·cases h1
  subst h1
  have ho:off < xs.size:=by
   simp only [List.length_take,List.length_drop,Array.length_toList] at hl
   omega
  refine ⟨xs[off],?_,.inr ⟨hg,?_⟩⟩
  ·simp only [part,Sem.run_bind,nC hg,Result.andThen_ok,Bool.false_eq_true,if_false,Array.getElem?_eq_getElem ho,Sem.run_pure]
  ·have ho':off < xs.toList.length:=by simpa using ho
   rw [List.drop_eq_getElem_cons ho']
   simp
theorem aAC {d:Nat} {t:TypeId} {cs:List Nat} (h:gP P d t=some cs):bJ P t=some true∨(bJ P t=some false∧cs.length=1):=by
 cases d with
 | zero=>simp [gP] at h
 | succ d =>
  unfold gP at h
  unfold bJ
  cases hu:P.underlying t with
  | none=>simp [hu] at h
  | some k =>
   simp only [hu] at h
   cases k <;> simp at h ⊢
   all_goals subst h; rfl
theorem jQ (dd:Nat) {e:TypeId} {m:List Nat} (hm:bV P e=some m.length) (ha:bJ P e=some true∨(bJ P e=some false∧m.length=1))
  (ih:∀ (w:World) (v v':Value) (l l':List Value) (b:Bool),sT P e v l→sT P e v' l'→eqv m l l'=some b→(Op.equalIn dd e v v').run P w=.ok b w) (xs ys:Array Value) :
  ∀ (n s:Nat) (b:Bool),eqv (List.replicate n m).flatten (xs.toList.drop (s * m.length)) (ys.toList.drop (s * m.length))=some b→(Op.eqItems dd e m.length xs ys (List.range' s n)).run P w=.ok b w
 | 0,s,b,h=>by
  have:b=true:=by
   have:=j4 h
   simp only [List.replicate_zero,List.flatten_nil,List.length_nil,List.length_eq_zero_iff] at this
   rw [this.1,this.2] at h
   simpa [eqv] using h.symm
  subst this
  simp [Op.eqItems]
 | n+1,s,b,h=>by
  rw [List.replicate_succ,List.flatten_cons] at h
  obtain ⟨r1,r2,h1,h2,rfl⟩:=oI h
  obtain ⟨g,hg,hg1⟩:∃ g,bJ P e=some g∧(g=true∨m.length=1):=by
   rcases ha with ha | ⟨ha,h1⟩
   ·exact ⟨true,ha,.inl rfl⟩
   ·exact ⟨false,ha,.inr h1⟩
  obtain ⟨v,p1,q1⟩:=r7 (w:=w) hg hm hg1 xs (s * m.length) (j4 h1).1
  obtain ⟨v',p2,q2⟩:=r7 (w:=w) hg hm hg1 ys (s * m.length) (j4 h1).2
  have h3:=ih w v v' _ _ _ q1 q2 h1
  have h4:=jQ dd hm ha ih xs ys n (s+1) r2 (by
   rw [List.drop_drop,List.drop_drop] at h2
   rw [Nat.add_mul,Nat.one_mul]
   exact h2)
  rw [List.range'_succ]
  simp only [Op.eqItems,Sem.run_bind,p1,p2,h3,Result.andThen_ok,Sem.run_ite]
  cases r1
  ·simp
  ·simpa using h4
theorem iZ (d dd:Nat) (xs ys:Array Value) (ih:∀ (t:TypeId) (cs:List Nat),gP P d t=some cs→∀ (w:World) (v v':Value) (l l':List Value) (b:Bool),sT P t v l→sT P t v' l'→eqv cs l l'=some b→(Op.equalIn dd t v v').run P w=.ok b w) :
  ∀ (fs:List Field) (at_:Nat) (cs:List Nat) (b:Bool),iP P (gP P d) fs at_=some cs→eqv cs (xs.toList.drop at_) (ys.toList.drop at_)=some b→(Op.eqFields dd xs ys fs).run P w=.ok b w
 | [],at_,cs,b,h,he=>by
  simp only [iP] at h
  cases h
  have:b=true:=by
   have:=j4 he
   simp only [List.length_nil,List.length_eq_zero_iff] at this
   rw [this.1,this.2] at he
   simpa [eqv] using he.symm
  subst this
  simp [Op.eqFields]
 | f::fs,at_,cs,b,h,he=>by
  simp only [iP] at h
  split at h
  ·rename_i hf
   split at h
   ·rename_i m hm
    split at h
    ·rename_i hs
     rw [Option.map_eq_some_iff] at h
     obtain ⟨cs',h5,rfl⟩:=h
     obtain ⟨r1,r2,h1,h2,rfl⟩:=oI he
     obtain ⟨g,hg,hg1⟩:∃ g,bJ P f.type=some g∧(g=true∨m.length=1):=by
      rcases aAC hm with ha | ⟨ha,h1⟩
      ·exact ⟨true,ha,.inl rfl⟩
      ·exact ⟨false,ha,.inr h1⟩
     obtain ⟨v,p1,q1⟩:=r7 (w:=w) hg hs hg1 xs at_ (j4 h1).1
     obtain ⟨v',p2,q2⟩:=r7 (w:=w) hg hs hg1 ys at_ (j4 h1).2
     have h3:=ih f.type m hm w v v' _ _ _ q1 q2 h1
     have h4:=iZ d dd xs ys ih fs (at_+m.length) cs' r2 h5 (by rw [List.drop_drop,List.drop_drop] at h2; exact h2)
     rw [hf.2.symm] at p1 p2
     simp only [Op.eqFields,hf.1,ne_eq,not_false_eq_true,if_true,Sem.run_bind,p1,p2,h3,Result.andThen_ok,Sem.run_ite]
     cases r1
     ·simp
     ·simpa using h4
    ·cases h
   ·cases h
  ·cases h
theorem fK:∀ (d:Nat) (t:TypeId) (cs:List Nat),gP P d t=some cs→∀ (dd:Nat),d≤dd→∀ (w:World) (v v':Value) (l l':List Value) (b:Bool),sT P t v l→sT P t v' l'→eqv cs l l'=some b→(Op.equalIn dd t v v').run P w=.ok b w
 | 0,t,cs,h,_,_,_,_,_,_,_,_,_,_,_=>by simp [gP] at h
 | d+1,t,cs,h,0,hd,_,_,_,_,_,_,_,_,_=>by omega
 | d+1,t,cs,h,dd+1,hd,w,v,v',l,l',b,hv,hv',he=>by
  unfold gP at h
  have cell:∀ {k:TypeDesc},P.underlying t=some k→bJ P t=some false→∃ x y,l=[x]∧l'=[y]∧v=x∧v'=y:=by
   intro k hu hg
   rcases hv with ⟨h1,_⟩ | ⟨_,h1⟩
   ·rw [hg] at h1; cases h1
   ·rcases hv' with ⟨h2,_⟩ | ⟨_,h2⟩
    ·rw [hg] at h2; cases h2
    ·exact ⟨v,v',h1,h2,rfl,rfl⟩
  have aggv:bJ P t=some true→v=.agg l.toArray∧v'=.agg l'.toArray:=by
   intro hg
   rcases hv with ⟨_,h1⟩ | ⟨h1,_⟩
   ·rcases hv' with ⟨_,h2⟩ | ⟨h2,_⟩
    ·exact ⟨h1,h2⟩
    ·rw [hg] at h2; cases h2
   ·rw [hg] at h1; cases h1
  cases hu:P.underlying t with
  | none=>simp [hu] at h
  | some k =>
   simp only [hu] at h
   cases k with
   | struct fs =>
    simp only at h
    split at h
    ·cases h
    ·rename_i hst
     have hst:P.stoodInHeld t=false:=by simpa using hst
     obtain ⟨rfl,rfl⟩:=aggv (by simp [bJ,hu])
     have hfs:P.fieldsOf t=fs:=by simp [Program.fieldsOf,hu]
     rw [run_equalIn_struct w dd t l.toArray l'.toArray (by rw [hfs]; exact hu) hst,hfs]
     exact iZ d dd l.toArray l'.toArray (fun t cs ht=>fK d t cs ht dd (by omega)) fs.toList 0 cs b h (by simpa using he)
   | array n e =>
    simp only at h
    split at h
    ·rename_i m hm
     split at h
     ·rename_i hs
      cases h
      obtain ⟨rfl,rfl⟩:=aggv (by simp [bJ,hu])
      obtain ⟨i,hi,his⟩:∃ i,P.info? e=some i∧i.size=m.length:=by
       simp only [bV,Option.map_eq_some_iff] at hs
       exact hs
      have hc:P.cellsOf e=m.length:=by simp [Program.cellsOf,hi,his]
      rw [run_equalIn_array w dd l.toArray l'.toArray hu hi,hc,List.range_eq_range']
      exact jQ dd hs (aAC hm) (fK d e m hm dd (by omega)) l.toArray l'.toArray n 0 b (by simpa using he)
     ·cases h
    ·cases h
   | bool =>
    cases h
    obtain ⟨x,y,rfl,rfl,rfl,rfl⟩:=cell hu (by simp [bJ,hu])
    simp only [eqv] at he
    cases v <;> (try (simp [rO] at he; done)) <;> cases v' <;> (try (simp [rO] at he; done))
    simp only [rO] at he
    cases he
    simp [Op.equalIn,a8 hu]
   | int kk =>
    cases h
    obtain ⟨x,y,rfl,rfl,rfl,rfl⟩:=cell hu (by simp [bJ,hu])
    simp only [eqv] at he
    cases v <;> (try (simp [rO] at he; done)) <;> cases v' <;> (try (simp [rO] at he; done))
    simp only [rO] at he
    split at he
    ·rename_i r1 r2 h2 h3
     split at h2
     ·rename_i hk
      cases h2
      cases h3
      cases he
      simp [Op.equalIn,a8 hu,hk]
     ·cases h2
    ·cases he
   | string =>
    cases h
    obtain ⟨x,y,rfl,rfl,rfl,rfl⟩:=cell hu (by simp [bJ,hu])
    simp only [eqv] at he
    cases v <;> (try (simp [rO] at he; done)) <;> cases v' <;> (try (simp [rO] at he; done))
    simp only [rO] at he
    cases he
    simp [Op.equalIn,a8 hu,beq_toListBytes]
   | _=>cases h
theorem sU (m:Mem F B np w0 ext σ0 G hp tk w) {x y:Value} {d e:D} (hx:Rd F G tk x d) (hy:Rd F G tk y e) (id n:Nat) (neg:Bool) {t:TypeId} {cs:List Nat} (hg:P.eqGuardType P.depth t=false) (hf:gP P 20 t=some cs) (ha:bJ P t=some true)
  {ox oy:Operand} {v:D} {u:Upd} (hh:(aT (.eqAgg neg cs) id hp tk [d,e]).holds v u) :
  Does F B np w0 ext σ0 G hp tk (((do eqGuard (if neg then .neq else .eql) t ox oy x y; binOp (if neg then .neq else .eql) t x y:Sem Value).run P w).andThen fun v w=>.ok (.value v) w) id n v u:=by
 cases d with
 | agg l =>
  cases e with
  | agg l' =>
   simp only [aT] at hh
   cases hc:aD0 cs l l' with
   | none=>rw [hc] at hh; exact (aD hh).elim
   | some b =>
    rw [hc] at hh
    obtain ⟨rfl,rfl⟩:=aE hh
    obtain ⟨xs,rfl,h1,h2⟩:=hx.agg_inv
    obtain ⟨ys,rfl,h3,h4⟩:=hy.agg_inv
    have he:=aAI cs l l' b xs.toList ys.toList hc (by simpa using h1) (by simpa using h3) (fun j hj=>by rw [← bB]; exact h2 j hj) (fun j hj=>by rw [← bB]; exact h4 j hj)
    have hr:=fK (P:=P) 20 t cs hf 10000 (by omega) w (.agg xs) (.agg ys) xs.toList ys.toList b (.inl ⟨ha,rfl⟩) (.inl ⟨ha,rfl⟩) he
    cases neg
    ·refine Does.val m (.any (.cell (.pure (.bool _) trivial))) ?_ id n
     simp only [Bool.false_eq_true,if_false,Sem.run_bind,run_eqGuard_agg w .eql t ox oy xs ys hg,run_eql_struct,hr,Result.andThen_ok,cond_false]
    ·refine Does.val m (.any (.cell (.pure (.bool _) trivial))) ?_ id n
     simp only [if_true,Sem.run_bind,run_eqGuard_agg w .neq t ox oy xs ys hg,run_neq_struct,hr,Result.andThen_ok,cond_true]
  | _=>exact (aD hh).elim
 | _=>exact (aD hh).elim
end
section
variable {P:Program} {F:Nat→FuncId} {B np:Nat} {w0 w w':World} {ext:List Nat} {σ0:Og} {G G':Gh} {s:St} {a:Act} {ft:FT}
theorem aDK {x y:Operand} {l:List AX} (h:kM ft [x,y]=some l):∃ p q,l=[p,q]∧trX ft x=some p∧trX ft y=some q:=by
 simp only [kM] at h
 cases h1:trX ft x with
 | none=>simp [h1] at h
 | some p =>
  cases h2:trX ft y with
  | none=>simp [h1,h2] at h
  | some q =>
   simp [h1,h2] at h
   exact ⟨p,q,h.symm,rfl,rfl⟩
theorem aIP {x y z:Operand} {l:List AX} (h:kM ft [x,y,z]=some l):∃ p q t,l=[p,q,t]∧trX ft x=some p∧trX ft y=some q∧trX ft z=some t:=by
 simp only [kM] at h
 cases h1:trX ft x with
 | none=>simp [h1] at h
 | some p =>
  cases h2:trX ft y with
  | none=>simp [h1,h2] at h
  | some q =>
   cases h3:trX ft z with
   | none=>simp [h1,h2,h3] at h
   | some t =>
    simp [h1,h2,h3] at h
    exact ⟨p,q,t,h.symm,rfl,rfl,rfl⟩
theorem xB {G:Gh} {tk:Nat→Option (Nat×Nat)} {v:Value} {ax:AX} {fr:List D} (h:Rd F G tk v (ax.ev fr)) (t:TypeId):Rd F G tk v ((trZ P t ax).ev fr):=by
 unfold trZ
 split
 ·rename_i l
  obtain ⟨cs,rfl,h1,h2⟩:=Rd.agg_inv (l:=l) h
  refine .any (.agg cs _ (by rw [cE]; exact h1) fun j hj=>?_)
  rw [cE] at hj
  obtain ⟨z,hz⟩:=mZ l (eV P 20 t) j
  rw [hz]
  exact t8 (h2 j hj) z
 ·rename_i z g
  cases h with | any h=>cases h with | cell h=>exact .any (.cell (t8 h _))
 ·exact h
theorem qR (hft:∀ f j,ag ft f=some j→F j=f) (r:Rel F B np w0 ext σ0 G s a w):∀ {l:List Operand} {ts:List TypeId} {as:List AX},mL ft P l ts=some as →
  l.length=as.length∧(evs s.fr as).length=as.length∧∀ j,j < as.length→Rd F G s.tk ((l.map a.eval).getD j undef) (nth (evs s.fr as) j .dead)
 | [],ts,as,h=>by cases h; exact ⟨rfl,rfl,fun j hj=>by simp at hj⟩
 | x::l,ts,as,h=>by
  simp only [mL] at h
  cases h1:trX ft x with
  | none=>simp [h1] at h
  | some ax =>
   cases h2:mL ft P l (ts.drop 1) with
   | none=>simp only [h1,h2,reduceCtorEq] at h
   | some as' =>
    simp only [h1,h2,Option.some.injEq] at h
    subst h
    obtain ⟨h3,h5,h4⟩:=qR hft r h2
    refine ⟨by simp [h3],by simp [evs,h5],fun j hj=>?_⟩
    cases j with
    | zero =>
     simp only [evs,nth,List.map_cons,List.getD_cons_zero]
     split
     ·exact .any (.cell (.pure (aBQ _ _ _ _) ⟨none,rfl⟩))
     ·exact xB (a9 hft r h1) _
     ·exact a9 hft r h1
    | succ j=>exact h4 j (by simpa using hj)
theorem aG7 {x y:Operand} {ts:List TypeId} {l:List AX} (h:mL ft P [x,y] ts=some l):∃ p q,l=[p,q]:=by
 simp only [mL] at h
 cases h1:trX ft x with
 | none=>simp [h1] at h
 | some p =>
  cases h2:trX ft y with
  | none=>simp [h1,h2] at h
  | some q =>
   simp only [h1,h2,Option.some.injEq] at h
   exact ⟨_,_,h.symm⟩
theorem pH {v:Value} {d:D} (h:gQ v=some d) (lo hi:Nat):d.names1 lo hi=false:=by
 unfold gQ at h
 split at h <;> cases h <;> rfl
theorem nU:∀ {l:List Value} {ds:List D},cM l=some ds→∀ lo hi,names lo hi ds=false
 | [],ds,h,lo,hi=>by cases h; rfl
 | v::l,ds,h,lo,hi=>by
  simp only [cM] at h
  split at h
  ·rename_i d ds' h1 h2
   cases h
   simp only [names,pH h1 lo hi,cond_false]
   exact nU h2 lo hi
  ·cases h
theorem D.names_of1 {d:D} {lo hi:Nat} (h:d.names1 lo hi=false) (hn:∀ l,d≠.agg l∧d≠.tup l):d.names lo hi=false:=by
 cases d with
 | agg l=>exact absurd rfl (hn l).1
 | tup l=>exact absurd rfl (hn l).2
 | slice t z n g=>exact h
 | ptr j o=>exact h
 | _=>exact h
theorem vD {v:Value} {d:D} (h:ofValue v=some d) (lo hi:Nat):d.names lo hi=false:=by
 unfold ofValue at h
 split at h
 ·rename_i cs
  cases hc:cM cs.toList with
  | none=>rw [hc] at h; cases h
  | some ds =>
   rw [hc] at h
   cases h
   exact nU hc lo hi
 ·have h1:=pH h lo hi
  refine D.names_of1 h1 fun l=>?_
  unfold gQ at h
  split at h <;> cases h <;> exact ⟨by simp,by simp⟩
theorem aFF {lo hi:Nat} (hcl:Clean lo hi s) {x:Operand} {ax:AX} (h:trX ft x=some ax):(ax.ev s.fr).names lo hi=false:=by
 cases x with
 | tmp t =>
  cases h
  simp only [AX.ev]
  by_cases ht:t < s.fr.length
  ·exact hcl.fr t ht
  ·rw [gO s.fr D.dead (Nat.le_of_not_lt ht)]
   rfl
 | const v =>
  simp only [trX,Option.map_eq_some_iff] at h
  obtain ⟨d,h1,rfl⟩:=h
  exact vD h1 lo hi
 | global g=>cases h
 | func f =>
  simp only [trX,Option.map_eq_some_iff] at h
  obtain ⟨j,h1,rfl⟩:=h
  rfl
theorem fT {t:TypeId} {ds:List D} (h:tQ P t=some ds):∃ i zv,P.info? t=some i∧i.zero=some zv∧cM zv.cells.toList=some ds:=by
 unfold tQ at h
 cases hi:P.info? t with
 | none=>simp [hi] at h
 | some i =>
  cases hz:i.zero with
  | none=>simp [hi,hz] at h
  | some zv =>
   simp [hi,hz] at h
   exact ⟨i,zv,rfl,hz,h⟩
theorem oB {t:TypeId} {n:Nat} (h:bV P t=some n):∃ i,P.info? t=some i∧i.size=n:=by
 simpa only [bV,Option.map_eq_some_iff] using h
theorem nQ {x:Operand} (h:kG x=true):x=.const (.slice none 0 0):=by
 unfold kG at h
 split at h
 ·rfl
 ·cases h
theorem m9 {place place':Nat→Option (Nat×Nat)} (hft:∀ f j,ag ft f=some j→F j=f) (r:Rel F B np w0 ext σ0 G s a w) (hpp:∀ i q,place i=some q→place' i=some q):∀ (l:List (Nat×Operand)) (qs:List (Nat×Nat)) (xs:List AX),
  iG place l=some qs→kM ft (l.map (·.2))=some xs→kA F G s.tk place' (l.map fun (i,x)=>(i,a.eval x)) qs (evs s.fr xs)
 | [],qs,xs,h1,h2=>by cases h1; cases h2; exact .nil
 | (i,x)::l,qs,xs,h1,h2=>by
  simp only [iG] at h1
  simp only [List.map_cons,kM] at h2
  cases e1:place i with
  | none=>simp [e1] at h1
  | some q =>
   cases e2:iG place l with
   | none=>simp [e1,e2] at h1
   | some qs' =>
    cases e3:trX ft x with
    | none=>simp [e3] at h2
    | some ax =>
     cases e4:kM ft (l.map (·.2)) with
     | none=>simp [e3,e4] at h2
     | some xs' =>
      simp only [e1,e2,Option.some.injEq] at h1
      simp only [e3,e4,Option.some.injEq] at h2
      subst h1 h2
      exact .cons (hpp _ _ e1) (a9 hft r e3) (m9 hft r hpp l qs' xs' e2 e4)
theorem o9:∀ (fs:List Field),(fs.all fun f=>(bV P f.type).isSome)=true→∃ places:List (Nat×Nat),fs.mapM (fun f=>(P.info? f.type).map fun i=>(f.offset,i.size))=some places ∧
  ∀ i:Nat,places[i]? = match fs[i]? with | some f=>(bV P f.type).map fun n=>(f.offset,n) | none=>none
 | [],_=>⟨[],by simp,fun i=>by simp⟩
 | f::fs,h=>by
  simp only [List.all_cons,Bool.and_eq_true] at h
  obtain ⟨places,h1,h2⟩:=o9 fs h.2
  obtain ⟨n,hn⟩:=Option.isSome_iff_exists.1 h.1
  obtain ⟨i,hi,hs⟩:=oB hn
  refine ⟨(f.offset,i.size)::places,by simp [List.mapM_cons,hi,h1],fun j=>?_⟩
  cases j with
  | zero=>simp [bV,hi]
  | succ j=>simpa using h2 j
theorem jK (hft:∀ f j,ag ft f=some j→F j=f) (r:Rel F B np w0 ext σ0 G s a w) {o:Option Operand} {os:List (Option Operand)} {l:List AX} (h:xA ft (o::os)=some l):∃ l',xA ft os=some l'∧Op1 F G s.tk (o.map a.eval) o.isSome (evs s.fr l) (evs s.fr l'):=by
 cases o with
 | none=>exact ⟨l,h,.absent _⟩
 | some x =>
  simp only [xA] at h
  cases h1:trX ft x with
  | none=>simp [h1] at h
  | some ax =>
   cases h2:xA ft os with
   | none=>simp [h1,h2] at h
   | some l' =>
    simp only [h1,h2,Option.some.injEq] at h
    subst h
    exact ⟨l',rfl,.here _ (a9 hft r h1)⟩
theorem zS {l:List AX} (h:xA ft []=some l):l=[]:=by cases h; rfl
theorem y0:∀ (ds:List D) (zs:List Nat),(eW ds zs).length=ds.length
 | [],zs=>rfl
 | d::ds,zs=>by
  have h0:∀ zs,(eW ds zs).length=ds.length:=fun zs=>y0 ds zs
  cases d <;> (try simp only [eW,List.length_cons,h0])
  cases zs <;> simp only [eW,List.length_cons,h0]
theorem Clean.free {lo hi:Nat} (h:Clean lo hi s):Free s.hp s.tk lo hi:=⟨h.hp,h.tk⟩
end
theorem l8 (ks:Nat→ByteArray) (key:ByteArray):∀ n,mpF ks key n≤n
 | 0=>Nat.le_refl _
 | n+1=>by
  simp only [mpF]
  have:=l8 ks key n
  split
  ·omega
  ·split <;> omega
theorem xS (ks:Nat→ByteArray) (key:ByteArray):∀ n,mpF ks key n < n→ks (mpF ks key n)=key
 | 0,h=>by simp [mpF] at h
 | n+1,h=>by
  simp only [mpF] at h ⊢
  split
  ·rename_i h1
   exact xS ks key n h1
  ·rename_i h1
   rw [if_neg h1] at h
   split
   ·rename_i h2
    exact h2
   ·rename_i h2
    rw [if_neg h2] at h
    omega
theorem wU (ks:Nat→ByteArray) (key:ByteArray):∀ n j,j < mpF ks key n→ks j≠key
 | 0,j,h=>by simp [mpF] at h
 | n+1,j,h=>by
  simp only [mpF] at h
  have h0:=wU ks key n j
  have h1:=l8 ks key n
  split at h
  ·exact h0 h
  ·split at h
   ·exact h0 (by omega)
   ·rename_i h2 h3
    by_cases hj:j=n
    ·subst hj; exact h3
    ·exact h0 (by omega)
theorem tX (k:ByteArray):∀ (l:List MapEntry) (i0 m:Nat),m≤l.length→(∀ q,q < m→∃ s,(l.getD q default).key=.string s∧s≠k) →
  (m < l.length→(l.getD m default).key=.string k)→Instr.findNow .string (.string k) l i0=some (if m < l.length then some (i0+m,(l.getD m default).val) else none)
 | [],i0,m,_,_,_=>by simp [Instr.findNow]
 | e::l,i0,m,hm,h1,h2=>by
  cases m with
  | zero =>
   have h2:=h2 (by simp)
   simp only [List.getD_cons_zero] at h2
   have:Instr.sameNow .string (.string k) e.key=some true:=by rw [h2]; simp [Instr.sameNow,(Go.MapKept.bytes_beq k k).2 rfl]
   simp [Instr.findNow,this]
  | succ m =>
   obtain ⟨s,e1,e2⟩:=h1 0 (by omega)
   simp only [List.getD_cons_zero] at e1
   have:Instr.sameNow .string (.string k) e.key=some false:=by
    rw [e1]
    simp only [Instr.sameNow,Option.some.injEq]
    cases hb:k==s with
    | false=>rfl
    | true=>exact absurd ((Go.MapKept.bytes_beq k s).1 hb).symm e2
   have ih:=tX k l (i0+1) m (by simpa using hm) (fun q hq=>by simpa using h1 (q+1) (by omega)) (fun hl=>by simpa using h2 (by simpa using hl))
   simp only [Instr.findNow,this,ih,List.length_cons,Nat.add_lt_add_iff_right,List.getD_cons_succ]
   split
   ·simp; omega
   ·rfl
section
variable {P:Program} {F:Nat→FuncId} {B np:Nat} {w0 w w':World} {ext:List Nat} {σ0:Og} {G:Gh} {hp:Nat→Option (Bool×List D)} {tk:Nat→Option (Nat×Nat)}
theorem Mem.allocObj (m:Mem F B np w0 ext σ0 G hp tk w) (ob:Obj) :
  Mem F B np w0 ext σ0 { G with σ:=aH G.σ w.heap.size (fun _=>none) } hp tk (w.alloc ob):=by
 have hle:=dW m (fun _=>none)
 constructor
 ·intro b o v h
  by_cases hb:b=w.heap.size
  ·subst hb
   simp [aH] at h
  ·simp only [aH,if_neg hb] at h
   obtain ⟨h1,c',e',fz',h2,h3⟩:=m.stab b o v h
   exact ⟨h1,c',e',fz',bI h2,h3⟩
 ·intro b o hb
  have:=m.base
  simp only [aH]
  rw [if_neg (by omega)]
  exact m.old b o hb
 ·exact m.os
 ·exact m.tape
 ·exact m.output
 ·have:=m.base; simp; omega
 ·intro b hb he
  rw [Go.heap_alloc_old w _ (r:=b) (by have:=m.base; omega)]
  exact m.keep b hb he
 ·intro id cs h hna
  obtain ⟨o',h1,h3,h4⟩:=m.vars id cs h hna
  refine ⟨o',bI h1,h3.imp fun j v hj hr=>hr.more hle,fun o=>?_⟩
  have:=(Array.getElem?_eq_some_iff.1 h1).1
  simp only [aH]
  rw [if_neg (by omega)]
  exact h4 o
 ·intro id fw z n g h
  obtain ⟨a,c',h1,h2⟩:=m.rows id fw z n g h
  refine ⟨a,c',h1,fun b hb hc=>?_⟩
  obtain ⟨h3,o',h4,h5⟩:=h2 b hb hc
  refine ⟨fun q=>?_,o',bI h4,h5.mono hle⟩
  have:=(Array.getElem?_eq_some_iff.1 h4).1
  simp only [aH]
  rw [if_neg (by omega)]
  exact h3 q
 ·intro id cs h j hj
  obtain ⟨v,h1,h2,h3⟩:=m.froz id cs h j hj
  exact ⟨v,hle _ _ _ h1,h2.mono hle,h3⟩
 ·intro i z n h
  obtain ⟨a,c',h1,h2,h3⟩:=m.toks i z n h
  refine ⟨a,c',h1,h2,fun hn=>?_⟩
  obtain ⟨b,cur,e',h4,h5,h6,h7⟩:=h3 hn
  refine ⟨b,cur,e',h4,bI h5,h6,fun o ho=>?_⟩
  have:=(Array.getElem?_eq_some_iff.1 h5).1
  simp only [aH]
  rw [if_neg (by omega)]
  exact h7 o ho
 ·exact m.own1
 ·exact m.own2
 ·intro b r h
  obtain ⟨h1,h2,h3,cur,e',h4,h5⟩:=m.resv b r h
  refine ⟨h1,h2,fun o ho=>?_,cur,e',bI h4,h5⟩
  have:=(Array.getElem?_eq_some_iff.1 h4).1
  simp only [aH]
  rw [if_neg (by omega)]
  exact h3 o ho
 ·intro id x va n ks vs h hx
  obtain ⟨h1,es,ck,h2,h3⟩:=m.lins id x va n ks vs h hx
  exact ⟨h1,es,ck,bI h2,h3⟩
def MapR (σ:Sg) (es:Array MapEntry) (va:Bool) (n:Nat) (ks:Nat→ByteArray) (vs:Nat→List D):Prop :=
 es.size=n∧∀ i (h:i < es.size),es[i].key=.string (ks i)∧CellsV σ va es[i].val (vs i)
theorem MapR.rc {es:Array MapEntry} {va:Bool} {n:Nat} {ks:Nat→ByteArray} {vs:Nat→List D} (h:MapR G.σ es va n ks vs):Rc F G tk (.tuple #[.tuple (es.map (·.key)),.tuple (es.map (·.val))]) (.mp va n ks vs):=by
 obtain ⟨h1,h2⟩:=h
 refine .mp _ _ va n ks vs (by simp [h1]) (by simp [h1]) (fun i hi=>?_) (fun i hi=>?_)
 ·have:=(h2 i (by omega)).1
  simp [Array.getD,h1,hi,this]
 ·have:=(h2 i (by omega)).2
  simpa [Array.getD,h1,hi] using this
theorem Rc.mapR {es:Array MapEntry} {va:Bool} {n:Nat} {ks:Nat→ByteArray} {vs:Nat→List D} (h:Rc F G tk (.tuple #[.tuple (es.map (·.key)),.tuple (es.map (·.val))]) (.mp va n ks vs)):MapR G.σ es va n ks vs:=by
 cases h with
 | pure h _=>cases h
 | mp _ _ _ _ _ _ h1 h2 h3 h4 =>
  simp only [Array.size_map] at h1
  refine ⟨h1,fun i hi=>⟨?_,?_⟩⟩
  ·have:=h3 i (by omega)
   simpa [Array.getD,hi] using this
  ·have:=h4 i (by omega)
   simpa [Array.getD,hi] using this
theorem Rd.mref_inv {v:Value} {i:Nat} (h:Rd F G tk v (.mref i)):v=.map (some (G.β i)):=by
 cases h with
 | any h=>cases h with | cell h=>cases h with | pure h _=>cases h
 | mref _=>rfl
theorem Mem.map (m:Mem F B np w0 ext σ0 G hp tk w) {i n:Nat} {x:D} {va:Bool} {ks:Nat→ByteArray} {vs:Nat→List D} (h:hp i=some (false,[x,.mp va n ks vs])):∃ es clock,w.heap[G.β i]? = some (.map es clock)∧MapR G.σ es va n ks vs:=by
 obtain ⟨o,h1,h2,_⟩:=m.vars i _ h (by cases x <;> rfl)
 rcases h2 with ⟨hs,_⟩ | ⟨_,_,_,h3⟩ | ⟨es,clock,x',va',n',ks',vs',rfl,h3,h4⟩
 ·cases x <;> simp [aG] at hs
 ·simp at h3
 ·simp only [List.cons.injEq,D.mp.injEq,and_true] at h3
  obtain ⟨rfl,rfl,rfl,rfl,rfl⟩:=h3
  exact ⟨es,clock,h1,h4.mapR⟩
theorem wM {y:Value} {e:D} (h:Rd F G tk y e) (hs:aG e.cells=true):CellsV G.σ e.isAgg y (aJ e.cells):=by
 cases h with
 | tup=>simp [D.cells,aG] at hs
 | mref=>simp [D.cells,aG] at hs
 | msl=>simp [D.cells,aG] at hs
 | rptr=>simp [D.cells,aG] at hs
 | any h =>
  cases h with
  | agg cs l h1 h2 =>
   refine .inl ⟨rfl,cs,rfl,by rw [D.cells,aI]; exact h1,fun j hj=>?_⟩
   rw [D.cells,aI] at hj
   rw [D.cells,aX,bH]
   exact (h2 j hj).pure1
  | cell h =>
   have key:e.isAgg=false∧e.cells=[e]:=by
    cases h with
    | pure h _=>cases h <;> exact ⟨rfl,rfl⟩
    | _=>exact ⟨rfl,rfl⟩
   rw [key.1,key.2]
   exact .inr ⟨rfl,rfl,by simp only [aJ,nth]; rw [bH]; exact h.pure1⟩
theorem Mem.withγ (m:Mem F B np w0 ext σ0 G hp tk w) (γ':Nat→Option Rs)
  (hr:∀ b r,γ' b=some r→B≤b∧(∀ k,¬bO G hp tk b k)∧(∀ o,r.n * r.z≤o→G.σ b o=none)∧∃ cur e,w.heap[b]? = some (.cells cur e (0,0))∧cur.size=r.c * r.z)
  (hl:∀ id x va n ks vs,hp id=some (false,[x,.mp va n ks vs])→x≠.dead→∀ vals,LinR G.γ id x n ks vs vals→LinR γ' id x n ks vs vals) :
  Mem F B np w0 ext σ0 { G with γ:=γ' } hp tk w:=by
 have kk:Keeps 0 0 G { G with γ:=γ' } tk tk:=⟨SgLe.refl _,fun _ _=>rfl,fun _ z m _ e=>⟨z,m,e,Nat.le_refl _,fun _=>rfl⟩,fun _ _ _ _ e=>e⟩
 have ho:∀ {b k},bO { G with γ:=γ' } hp tk b k→bO G hp tk b k:=fun {b k} h=>by
  cases k with
  | inl id =>
   obtain ⟨cs,h1,h2⟩:=h
   exact ⟨cs,h1,h2.congr rfl fun _=>rfl⟩
  | inr i=>exact h
 refine ⟨m.stab,m.old,m.os,m.tape,m.output,m.base,m.keep,fun id cs h hna=>?_,m.rows,m.froz,m.toks,fun b k k' h1 h2=>m.own1 b k k' (ho h1) (ho h2),fun b k h1=>m.own2 b k (ho h1),fun b r h=>?_,fun id x va n ks vs h hx=>?_⟩
 ·obtain ⟨o,h1,h2,h3⟩:=m.vars id cs h hna
  exact ⟨o,h1,h2.imp fun q v _ hr=>hr.keep kk (bG _),h3⟩
 ·obtain ⟨h1,h2,h3⟩:=hr b r h
  exact ⟨h1,fun k hk=>h2 k (ho hk),h3⟩
 ·obtain ⟨h1,es,ck,h2,h3⟩:=m.lins id x va n ks vs h hx
  exact ⟨h1,es,ck,h2,hl id x va n ks vs h hx _ h3⟩
theorem Mem.mark (m:Mem F B np w0 ext σ0 G hp tk w) {i n:Nat} {ks:Nat→ByteArray} {vs:Nat→List D} (h:hp i=some (false,[.nilp,.mp true n ks vs])) (k:ByteArray) :
  Mem F B np w0 ext σ0 G (fun j=>bif Nat.beq j i then some (false,[.str k,.mp true n ks vs]) else hp j) tk w:=by
 obtain ⟨⟨_,_⟩,es,ck,h2,h3⟩:=m.lins i _ _ _ _ _ h (by simp)
 obtain ⟨es',ck',h4,h5⟩:=m.map h
 rw [h2] at h4
 cases h4
 refine m.setObj i _ _ h (.map es ck) ⟨rfl,rfl,rfl,rfl,fun _ _=>rfl⟩ h2 rfl (.inr (.inr ⟨es,ck,_,_,_,_,_,rfl,rfl,h5.rc⟩)) (fun x va n' ks' vs' e hx=>?_)
 cases e
 exact ⟨⟨rfl,.inr ⟨_,rfl⟩⟩,es,ck,rfl,fun j hj _=>h3 j hj (fun _ e=>by cases e)⟩
theorem qH:∀ {l:List D} {i:Nat},gN l i=[]→gT l i=aJ l
 | [],_,_=>rfl
 | d::l,i,h=>by
  cases d with
  | slice t z n g=>simp [gN] at h
  | _=>exact congrArg (_::·) (qH (l:=l) (i:=i+1) h)
theorem kU:∀ (l:List D) (i:Nat),(gT l i).length=l.length
 | [],_=>rfl
 | d::l,i=>by
  have:=kU l (i+1)
  cases d <;> simp [gT,this]
theorem vQ:∀ {l:List D} {i:Nat} {x:Nat×Nat×Nat},gN l i=[x]→∃ q t z n g,q < l.length∧x=(i+q,z,n)∧nth l q .dead=.slice t z n g∧nth (gT l i) q .dead=.slice (.own (i+q)) z n g∧∀ j,j≠q→nth (gT l i) j .dead=(nth l j .dead).pure1
 | [],_,_,h=>by simp [gN] at h
 | d::l,i,x,h=>by
  have rest:gN l (i+1)=[x]→gT (d::l) i=d.pure1::gT l (i+1)→∃ q t z n g,q < (d::l).length∧x=(i+q,z,n)∧nth (d::l) q .dead=.slice t z n g∧nth (gT (d::l) i) q .dead=.slice (.own (i+q)) z n g∧∀ j,j≠q→nth (gT (d::l) i) j .dead=(nth (d::l) j .dead).pure1:=fun h e=>by
   obtain ⟨q,t,z,n,g,h1,h2,h3,h4,h5⟩:=vQ h
   refine ⟨q+1,t,z,n,g,by simpa using h1,?_,h3,?_,fun j hj=>?_⟩
   ·rw [h2,show i+1+q=i+(q+1) from by omega]
   ·rw [e,show i+(q+1)=i+1+q from by omega]
    exact h4
   ·rw [e]
    cases j with
    | zero=>rfl
    | succ j=>exact h5 j (by omega)
  cases d with
  | slice t z n g =>
   simp only [gN,List.cons.injEq] at h
   have e:=qH h.2
   refine ⟨0,t,z,n,g,by simp,h.1.symm,rfl,rfl,fun j hj=>?_⟩
   cases j with
   | zero=>exact absurd rfl hj
   | succ j =>
    show nth (gT l (i+1)) j .dead=(nth l j .dead).pure1
    rw [e,aX]
  | _=>exact rest h rfl
theorem lX {es:Array MapEntry} {i:Nat} (h:i < es.size):tZ es i=es[i].val:=by simp [tZ,Array.getD,h]
theorem Mem.take (m:Mem F B np w0 ext σ0 G hp tk w) {i n:Nat} {ks:Nat→ByteArray} {vs:Nat→List D} (h:hp i=some (false,[.nilp,.mp true n ks vs])) (k:ByteArray) {es:Array MapEntry} {ck:Nat} (h1:w.heap[G.β i]? = some (.map es ck)) (h2:MapR G.σ es true n ks vs)
  (hf:mpF ks k n < es.size) {id nn:Nat} (fr:Free hp tk id (id+nn)) (hnn:(vs (mpF ks k n)).length+1≤nn) (hle:(gN (vs (mpF ks k n)) (id+1)).length≤1) :
  ∃ G',Mem F B np w0 ext σ0 G' (dH hp [(i,false,[.str k,.mp true n ks vs])]) (bX tk (gN (vs (mpF ks k n)) (id+1))) w∧Keeps id (id+nn) G G' tk (bX tk (gN (vs (mpF ks k n)) (id+1))) ∧
   Rd F G' (bX tk (gN (vs (mpF ks k n)) (id+1))) es[mpF ks k n].val (.agg (gT (vs (mpF ks k n)) (id+1))):=by
 have mm:=m.mark h k
 obtain ⟨_,hc⟩:=h2.2 _ hf
 rcases hc with ⟨_,cs,hcs,hsz,hrp⟩ | ⟨e,_⟩
 rotate_left
 ·cases e
 have hev:=lX hf
 rw [hcs] at hev ⊢
 obtain ⟨_,es',ck',h3,h4⟩:=m.lins i _ _ _ _ _ h (by simp)
 rw [h1] at h3
 cases h3
 generalize hl:vs (mpF ks k n)=l at *
 match ht:gN l (id+1),hle with
 | [],_ =>
  refine ⟨G,mm,Keeps.refl _ _ _ _,?_⟩
  rw [qH ht]
  refine .any (.agg cs _ (by rw [aI]; exact hsz) fun j hj=>?_)
  rw [aI] at hj
  rw [aX]
  exact .pure (hrp j hj) (bT _ _)
 | [x],_ =>
  obtain ⟨q,t,z,len,g,q1,rfl,q2,q3,q4⟩:=vQ ht
  have hv:=hrp q q1
  rw [q2] at hv
  generalize hcv:cs.getD q undef=v at hv
  cases hv with
  | slice a _ c _ _ _ b o val e1 e2 e3 e4 e5 =>
   have hres:len < c→∃ b,a=some ⟨b,0,none⟩∧G.γ b=some ⟨i,mpF ks k n,q,len,z,c⟩:=fun hlt =>
    h4 (mpF ks k n) (by have:=h2.1; omega) (fun _ e=>by cases e) q (by rw [hl]; exact q1) t z len g (by rw [hl]; exact q2) a c (by rw [hev]; exact hcv) hlt
   have m1:=mm.withγ (fun b=>match G.γ b with
    | some r=>if r.id=i∧r.i=mpF ks k n then none else some r
    | none=>none) (fun b r hb=>by
     cases hg:G.γ b with
     | none=>rw [hg] at hb; cases hb
     | some r' =>
      rw [hg] at hb
      simp only at hb
      split at hb
      ·cases hb
      ·cases hb
       exact mm.resv b _ hg) (fun id' x va n' ks' vs' hx hxd vals hL j hj hk q' hq' t' z' len' g' hg' a' c' hv' hlt'=>by
     obtain ⟨b',b1,b2⟩:=hL j hj hk q' hq' t' z' len' g' hg' a' c' hv' hlt'
     refine ⟨b',b1,?_⟩
     show (match G.γ b' with
      | some r=>if r.id=i∧r.i=mpF ks k n then none else some r
      | none=>none)=_
     rw [b2]
     simp only
     rw [if_neg]
     rintro ⟨rfl,rfl⟩
     rcases aN hx with ⟨_,hx'⟩ | ⟨hne,_⟩
     ·cases hx'
      exact hk k rfl rfl
     ·exact hne rfl)
   have m2:=m1.addTok (id+1+q) z len c a e1 (fun hlt=>by
    obtain ⟨b',b1,b2⟩:=hres hlt
    obtain ⟨r1,r2,r3,cur,e',r4,r5⟩:=mm.resv b' _ b2
    refine ⟨b',cur,e',b1,r4,r5,r3,fun k' _ hk'=>r2 k' ?_,r1,?_⟩
    ·cases k' with
     | inl id' =>
      obtain ⟨cs',c1,c2⟩:=hk'
      exact ⟨cs',c1,c2.congr rfl fun _=>rfl⟩
     | inr i'=>exact hk'
    ·show (match G.γ b' with
      | some r=>if r.id=i∧r.i=mpF ks k n then none else some r
      | none=>none)=_
     rw [b2]
     simp) (fun id' f cs' hx j hj ⟨z',m',g',hc'⟩=>by
    rcases aN hx with ⟨_,hx'⟩ | ⟨_,hx'⟩
    ·cases hx'
     rcases j with _ | _ | j
     ·cases hc'
     ·cases hc'
     ·simp at hj
      omega
    ·obtain ⟨_,_,_,hF⟩:=fr.nohp ⟨by omega,by omega⟩ id' f cs' hx' j hj ⟨z',m',g',hc'⟩
     exact hF.elim)
   refine ⟨_,m2,⟨SgLe.refl _,fun _ _=>rfl,fun j z' m' hj hz=>?_,fun _ _ _ _ e=>e⟩,.any (.agg cs _ (by rw [kU]; exact hsz) fun j hj=>?_)⟩
   ·rcases aN hz with ⟨rfl,_⟩ | ⟨hne,hz'⟩
    ·omega
    ·exact ⟨z',m',hz',Nat.le_refl _,fun _=>by simp only; rw [if_neg hne]⟩
   ·rw [kU] at hj
    by_cases hjq:j=q
    ·subst hjq
     rw [q3,hcv]
     refine .pure (.slice a len c _ z g b o val e1 e2 e3 e4 e5) (fun z' m' hz=>?_)
     rcases aN hz with ⟨_,hx'⟩ | ⟨hne,_⟩
     ·cases hx'
      exact ⟨Nat.le_refl _,fun _=>by simp⟩
     ·exact absurd rfl hne
    ·rw [q4 j hjq]
     exact .pure (hrp j hj) (bT _ _)
theorem qF:∀ {l:List D} {u:List (Nat×Nat×Nat)} {p:Prop},oN tk l=some (u,p)→p →
  (u=[]∧∀ q t z n g,nth l q .dead=.slice t z n g→t=.full) ∨
  ∃ j z n q g,u=[(j,z,n+1)]∧tk j=some (z,n)∧q < l.length∧nth l q .dead=.slice (.own j) z n g∧∀ q',q'≠q→∀ t z n g,nth l q' .dead=.slice t z n g→t=.full
 | [],u,p,h,_=>by
  simp only [oN,Option.some.injEq,Prod.mk.injEq] at h
  exact .inl ⟨h.1.symm,fun q t z n g e=>by cases e⟩
 | d::l,u,p,h,hp=>by
  have rest:oN tk l=some (u,p)→(∀ t z n g,d=.slice t z n g→t=.full)→(u=[]∧∀ q t z n g,nth (d::l) q .dead=.slice t z n g→t=.full) ∨
    ∃ j z n q g,u=[(j,z,n+1)]∧tk j=some (z,n)∧q < (d::l).length∧nth (d::l) q .dead=.slice (.own j) z n g∧∀ q',q'≠q→∀ t z n g,nth (d::l) q' .dead=.slice t z n g→t=.full:=fun h hd=>by
   rcases qF h hp with ⟨h1,h2⟩ | ⟨j,z,n,q,g,h1,h2,h3,h4,h5⟩
   ·refine .inl ⟨h1,fun q t z n g e=>?_⟩
    cases q with
    | zero=>exact hd t z n g e
    | succ q=>exact h2 q t z n g e
   ·refine .inr ⟨j,z,n,q+1,g,h1,h2,by simpa using h3,h4,fun q' hq t z n g e=>?_⟩
    cases q' with
    | zero=>exact hd t z n g e
    | succ q'=>exact h5 q' (by omega) t z n g e
  cases d with
  | slice t z n g =>
   cases t with
   | ro=>simp [oN] at h
   | full=>exact rest h (fun t z n g e=>by cases e; rfl)
   | own j =>
    simp only [oN] at h
    split at h
    ·rename_i z' n' p' hj hl
     cases hb:Nat.beq z' z with
     | false=>rw [hb] at h; cases h
     | true =>
      rw [hb] at h
      have hz:=Nat.eq_of_beq_eq_true hb
      subst hz
      simp only [cond_true,Option.some.injEq,Prod.mk.injEq] at h
      obtain ⟨rfl,rfl⟩:=h
      obtain ⟨rfl,hp'⟩:=hp
      rcases qF hl hp' with ⟨_,h2⟩ | ⟨_,_,_,_,_,h1,_⟩
      ·refine .inr ⟨j,z',n',0,g,rfl,hj,by simp,rfl,fun q' hq t z n g e=>?_⟩
       cases q' with
       | zero=>exact absurd rfl hq
       | succ q'=>exact h2 q' t z n g e
      ·cases h1
    ·cases h
  | _=>exact rest h (fun t z n g e=>by cases e)
theorem LinR.put {γ γ':Nat→Option Rs} {i n:Nat} {k:ByteArray} {ks:Nat→ByteArray} {vs:Nat→List D} {vals vals':Nat→Value} {ds:List D} {y:Value} (h:LinR γ i (.str k) n ks vs vals) (hγ:∀ b r,γ b=some r→γ' b=some r)
  (hnew:∀ q,q < ds.length→∀ t z len g,nth ds q .dead=.slice t z len g→∀ a c,aHT y q=.slice a len c→len < c→∃ b,a=some ⟨b,0,none⟩∧γ' b=some ⟨i,mpF ks k n,q,len,z,c⟩)
  (hv:∀ j,j < mpN ks k n→vals' j=if j=mpF ks k n then y else vals j):LinR γ' i .nilp (mpN ks k n) (jD ks k n) (iT ks vs k ds n) vals':=by
 intro j hj _ q hq t z len g hg a c hvc hlt
 rw [hv j hj] at hvc
 simp only [iT] at hq hg
 by_cases e:j=mpF ks k n
 ·rw [if_pos e] at hq hg hvc
  obtain ⟨b,h1,h2⟩:=hnew q hq t z len g hg a c hvc hlt
  exact ⟨b,h1,by rw [e]; exact h2⟩
 ·rw [if_neg e] at hq hg hvc
  have hjn:j < n:=by
   have:=l8 ks k n
   unfold mpN at hj
   split at hj <;> omega
  obtain ⟨b,h1,h2⟩:=h j hjn (fun k0 e0=>by cases e0; exact e) q hq t z len g hg a c hvc hlt
  exact ⟨b,h1,hγ b _ h2⟩
theorem Mem.put (m:Mem F B np w0 ext σ0 G hp tk w) {i n:Nat} {k:ByteArray} {ks:Nat→ByteArray} {vs:Nat→List D} (h:hp i=some (false,[.str k,.mp true n ks vs])) {es es':Array MapEntry} {ck ck':Nat} (h1:w.heap[G.β i]? = some (.map es ck))
  {y:Value} {l:List D} (hy:Rd F G tk y (.agg l)) {u:List (Nat×Nat×Nat)} {p:Prop} (hu:oN tk l=some (u,p)) (hp':p)
  (hw:tT (G.β i) w w') (hb:w'.heap[G.β i]? = some (.map es' ck')) (hm:MapR G.σ es' true (mpN ks k n) (jD ks k n) (iT ks vs k (aJ l) n))
  (hv:∀ j,j < mpN ks k n→tZ es' j=if j=mpF ks k n then y else tZ es j) (lo hi:Nat) :
  ∃ G',Mem F B np w0 ext σ0 G' (dH hp [(i,false,[.nilp,.mp true (mpN ks k n) (jD ks k n) (iT ks vs k (aJ l) n)])]) (bX tk u) w'∧Keeps lo hi G G' tk (bX tk u):=by
 obtain ⟨_,es0,ck0,h3,h4⟩:=m.lins i _ _ _ _ _ h (by simp)
 rw [h1] at h3
 cases h3
 have hcs:∃ cs,y=.agg cs∧cs.size=l.length∧∀ j,j < l.length→Rc F G tk (cs.getD j undef) (nth l j .dead):=by
  cases hy with
  | any hy =>
   cases hy with
   | agg cs _ e1 e2=>exact ⟨cs,rfl,e1,e2⟩
   | cell hy=>cases hy with | pure hy _=>cases hy
 obtain ⟨cs,rfl,hsz,hrc⟩:=hcs
 -- a slice among the cells that is full has no end
 have full:∀ q len g z a c,nth l q .dead=.slice .full z len g→q < l.length→cs.getD q undef=.slice a len c→¬len < c:=fun q len g z a c e hq ec hlt=>by
  have:=hrc q hq
  rw [e,ec] at this
  cases this with
  | pure _ ht =>
   obtain ⟨a',e'⟩:=ht
   cases e'
   omega
 have shape:∀ q t z len g,nth (aJ l) q .dead=.slice t z len g→∃ t' ,nth l q .dead=.slice t' z len g:=fun q t z len g e=>by
  rw [aX] at e
  generalize nth l q D.dead=d at e
  cases d <;> simp only [D.pure1] at e <;> first | cases e | skip
  exact ⟨_,rfl⟩
 rcases qF hu hp' with ⟨rfl,hall⟩ | ⟨j,z,len,q,g,rfl,hj,hq,hql,hall⟩
 ·refine ⟨G,?_,Keeps.refl _ _ _ _⟩
  refine m.setObj i _ _ h (.map es' ck') hw hb rfl (.inr (.inr ⟨_,_,_,_,_,_,_,rfl,rfl,hm.rc⟩)) (fun x va n' ks' vs' e hx=>?_)
  cases e
  refine ⟨⟨rfl,.inl rfl⟩,es',ck',rfl,h4.put (fun _ _ e=>e) (fun q hq t z len g e a c ec hlt=>?_) hv⟩
  rw [aI] at hq
  obtain ⟨t',e'⟩:=shape q t z len g e
  have:=hall q t' z len g e'
  subst this
  exact absurd hlt (full q len g z a c e' hq ec)
 ·obtain ⟨av,c,t1,t2,t3⟩:=m.toks j z len hj
  have hcell:cs.getD q undef=.slice av len c:=by
   have:=hrc q hq
   rw [hql] at this
   generalize cs.getD q undef=v at this
   cases this with
   | pure _ ht=>rw [(ht z len hj).2 rfl,t1]
  have m1:=m.addTok j z (len+1) (len+1) none (Nat.le_refl _) (fun hlt=>by omega) (fun _ _ _ _ _ _ _=>⟨z,len,hj,by omega,fun e=>by omega⟩)
  have kk:Keeps lo hi G { G with ρ:=fun q=>if q=j then .slice none (len+1) (len+1) else G.ρ q } tk (fun q=>bif Nat.beq q j then some (z,len+1) else tk q) :=
   ⟨SgLe.refl _,fun _ _=>rfl,fun i' z' m' _ hz=>by
    rcases aN hz with ⟨rfl,hx⟩ | ⟨hne,hz'⟩
    ·cases hx
     exact ⟨z,len,hj,by omega,fun e=>by omega⟩
    ·exact ⟨z',m',hz',Nat.le_refl _,fun _=>by simp only; rw [if_neg hne]⟩,fun _ _ _ _ e=>e⟩
  have put:∀ γ':Nat→Option Rs,(∀ b r,G.γ b=some r→γ' b=some r)→(len < c→∃ b,av=some ⟨b,0,none⟩∧γ' b=some ⟨i,mpF ks k n,q,len,z,c⟩) →
    Mem F B np w0 ext σ0 { { G with ρ:=fun q=>if q=j then .slice none (len+1) (len+1) else G.ρ q } with γ:=γ' } hp (fun q=>bif Nat.beq q j then some (z,len+1) else tk q) w →
    ∃ G',Mem F B np w0 ext σ0 G' (dH hp [(i,false,[.nilp,.mp true (mpN ks k n) (jD ks k n) (iT ks vs k (aJ l) n)])]) (bX tk [(j,z,len+1)]) w'∧Keeps lo hi G G' tk (bX tk [(j,z,len+1)]):=fun γ' hγ hnew m2=>by
   refine ⟨_,m2.setObj i _ _ h (.map es' ck') hw hb rfl (.inr (.inr ⟨_,_,_,_,_,_,_,rfl,rfl,MapR.rc (G:={ { G with ρ:=fun q=>if q=j then .slice none (len+1) (len+1) else G.ρ q } with γ:=γ' }) hm⟩)) (fun x va n' ks' vs' e hx=>?_),⟨kk.σ,kk.β,kk.tok,kk.row⟩⟩
   cases e
   refine ⟨⟨rfl,.inl rfl⟩,es',ck',rfl,h4.put hγ (fun q' hq' t z' len' g' e a' c' ec hlt=>?_) hv⟩
   rw [aI] at hq'
   obtain ⟨t',e'⟩:=shape q' t z' len' g' e
   by_cases hqq:q'=q
   ·subst hqq
    rw [hql] at e'
    cases e'
    have ec:cs.getD q' undef=.slice a' len c':=ec
    rw [hcell] at ec
    cases ec
    exact hnew hlt
   ·have:=hall q' hqq t' z' len' g' e'
    subst this
    exact absurd hlt (full q' len' g' z' a' c' e' hq' ec)
  by_cases hlt:len < c
  ·obtain ⟨b,cur,e,b1,b2,b3,b4⟩:=t3 hlt
   have how:bO G hp tk b (.inr j):=⟨z,len,c,hj,by rw [t1,b1],hlt⟩
   have hnone:G.γ b=none:=by
    cases hg:G.γ b with
    | none=>rfl
    | some r=>exact absurd how ((m.resv b r hg).2.1 _)
   have hmono:∀ b' r,G.γ b'=some r→(if b'=b then some (⟨i,mpF ks k n,q,len,z,c⟩:Rs) else G.γ b')=some r:=fun b' r hr=>by
    rw [if_neg (fun hbb=>by rw [hbb,hnone] at hr; cases hr)]
    exact hr
   have hno:∀ k',¬bO { G with ρ:=fun q=>if q=j then .slice none (len+1) (len+1) else G.ρ q } hp (fun q=>bif Nat.beq q j then some (z,len+1) else tk q) b k':=fun k' hk'=>by
    cases k' with
    | inl id' =>
     obtain ⟨cs',c1,c2⟩:=hk'
     have hxx:bO G hp tk b (.inl id'):=⟨cs',c1,c2.congr rfl fun _=>rfl⟩
     have:=m.own1 b _ _ hxx how
     cases this
    | inr i' =>
     obtain ⟨z',n',c',c1,c2,c3⟩:=hk'
     rcases aN c1 with ⟨rfl,hx⟩ | ⟨hne,hz'⟩
     ·cases hx
      simp only [if_true] at c2
      cases c2
     ·simp only at c2
      rw [if_neg hne] at c2
      have hxx:bO G hp tk b (.inr i'):=⟨z',n',c',hz',c2,c3⟩
      have:=m.own1 b _ _ hxx how
      exact hne (Sum.inr.inj this)
   refine put (fun b'=>if b'=b then some ⟨i,mpF ks k n,q,len,z,c⟩ else G.γ b') hmono (fun _=>⟨b,b1,by simp⟩) (m1.withγ _ (fun b' r hb'=>?_) (fun id' x va n' ks' vs' hx hxd vals hL j' hj' hk q' hq' t' z' len' g' hg' a' c' hv' hlt'=>?_))
   ·by_cases hbb:b'=b
    ·subst hbb
     rw [if_pos rfl] at hb'
     cases hb'
     refine ⟨?_,hno,b4,cur,e,b2,b3⟩
     rcases m.own2 b' _ how with h5 | ⟨_,id,h5,_⟩
     ·exact h5
     ·cases h5
    ·rw [if_neg hbb] at hb'
     exact m1.resv b' r hb'
   ·obtain ⟨b',c1,c2⟩:=hL j' hj' hk q' hq' t' z' len' g' hg' a' c' hv' hlt'
    exact ⟨b',c1,hmono b' _ c2⟩
  ·exact put G.γ (fun _ _ e=>e) (fun hh=>absurd hh hlt) m1
theorem aBI (m:Mem F B np w0 ext σ0 G hp tk w) {id nn:Nat} (hn:0 < nn) (fr:Free hp tk id (id+nn)) (t:TypeId) (va lin:Bool) {v:D} {u:Upd}
  (hh:(aT (.mkMap va lin) id hp tk []).holds v u):Does F B np w0 ext σ0 G hp tk (((Instr.makeMap t none).run P w).andThen fun v w=>.ok (.value v) w) id nn v u:=by
 simp only [aT] at hh
 obtain ⟨rfl,rfl⟩:=a6 hh
 have hna:bQ [bif va&&lin then D.nilp else .dead,.mp va 0 (fun _=>ByteArray.empty) eU]=false:=by cases va <;> cases lin <;> rfl
 have m1:=m.allocObj (.map #[] 0)
 have hle:=dW m (fun _=>none)
 have hk:Keeps id (id+nn) G { σ:=aH G.σ w.heap.size (fun _=>none),β:=fun j=>if j=id then w.heap.size else G.β j,ρ:=G.ρ,η:=G.η,γ:=G.γ } tk tk :=
  ⟨hle,fun j hj=>by simp only; rw [if_neg (by omega)],fun _ z m _ e=>⟨z,m,e,Nat.le_refl _,fun _=>rfl⟩,fun _ _ _ _ e=>e⟩
 have m2:=m1.addObj id w.heap.size [bif va&&lin then .nilp else .dead,.mp va 0 (fun _=>.empty) eU] (.map #[] 0) (heap_alloc_new w _)
  (.inr (.inr ⟨#[],0,_,va,0,_,_,rfl,rfl,MapR.rc ⟨rfl,fun i hi=>absurd hi (Nat.not_lt_zero _)⟩⟩)) (fun o=>by simp [aH])
  (fun k hk=>by have:=m.own_lt (k:=k) (b:=w.heap.size) (by cases k <;> exact hk); omega) (.inl m.base) (fr.var ⟨Nat.le_refl _,by omega⟩)
  (fun id' f cs' h=>cT (fr.hp id' f cs' h).2 (Nat.le_refl _) (by omega)) m.resv_new (fun x va' n ks vs h hx=>by
   simp only [List.cons.injEq,D.mp.injEq,and_true] at h
   obtain ⟨rfl,rfl,rfl,rfl,rfl⟩:=h
   cases va with
   | false=>exact absurd rfl hx
   | true =>
    cases lin with
    | false=>exact absurd rfl hx
    | true=>exact ⟨⟨rfl,.inl rfl⟩,#[],0,rfl,fun i hi=>absurd hi (Nat.not_lt_zero i)⟩)
 refine ⟨_,.value (.map (some w.heap.size)),_,_,?_,.inl rfl,m2,?_,hk⟩
 ·simp [Instr.makeMap]
 ·have:=Rd.mref (F:=F) (G:={ σ:=aH G.σ w.heap.size (fun _=>none),β:=fun j=>if j=id then w.heap.size else G.β j,ρ:=G.ρ,η:=G.η,γ:=G.γ }) (tk:=tk) id
  simpa [bX] using this
theorem aAT (m:Mem F B np w0 ext σ0 G hp tk w) {x:Value} {d:D} (hx:Rd F G tk x d) (id nn:Nat) {t ty k e:TypeId} (ht:P.underlying t=some (.map k e)) {v:D} {u:Upd}
  (hh:(aT .mapLen id hp tk [d]).holds v u):Does F B np w0 ext σ0 G hp tk (((Builtin.len_ #[t] ty #[x]).run P w).andThen fun v w=>.ok (.value v) w) id nn v u:=by
 cases d with
 | mref i =>
  simp only [aT] at hh
  unfold sC at hh
  split at hh
  ·rename_i va n ks vs hi
   obtain ⟨rfl,rfl⟩:=aE hh
   have:=hx.mref_inv
   subst this
   obtain ⟨es,clock,h1,h2,_⟩:=m.map hi
   refine Does.val m (v:=.int .i64 es.size) ?_ ?_ id nn
   ·rw [h2]
    exact .any (.cell (.pure (.int _ _) trivial))
   ·simp [Builtin.len_,run_underlying ht,MapKept.run_getObj_map h1,goInt]
  ·exact (aD hh).elim
 | _=>exact (aD hh).elim
theorem MapR.find {σ:Sg} {es:Array MapEntry} {va:Bool} {n:Nat} {ks:Nat→ByteArray} {vs:Nat→List D} (h:MapR σ es va n ks vs) {kt:TypeId} (hk:P.underlying kt=some .string) (k:ByteArray) (w:World) :
  (Instr.findKey kt (.string k) es.toList).run P w=.ok (if h:mpF ks k n < es.size then some (mpF ks k n,(es[mpF ks k n]).val) else none) w:=by
 obtain ⟨h1,h2⟩:=h
 have hg:∀ q,q < es.size→(es.toList.getD q default)=es.getD q default:=fun q hq=>by simp [Array.getD,hq]
 have key:=tX k es.toList 0 (mpF ks k n) (by have:=l8 ks k n; simpa [h1] using this) (fun q hq=>by
  have hq':q < es.size:=by have:=l8 ks k n; omega
  refine ⟨ks q,?_,wU ks k n q hq⟩
  have:=(h2 q hq').1
  simpa [hq'] using this) (fun hl=>by
  have hl':mpF ks k n < es.size:=by simpa using hl
  have:=(h2 _ hl').1
  rw [xS ks k n (by omega)] at this
  simpa [hl'] using this)
 unfold Instr.findKey
 simp only [Sem.run_bind,run_underlying hk,Result.andThen_ok,key]
 by_cases hl:mpF ks k n < es.size
 ·simp [hl]
 ·simp [hl]
theorem MapR.set {σ:Sg} {es:Array MapEntry} {va:Bool} {n:Nat} {ks:Nat→ByteArray} {vs:Nat→List D} (h:MapR σ es va n ks vs) (k:ByteArray) {y:Value} {ds:List D} (hy:CellsV σ va y ds) (hf:mpF ks k n < es.size) :
  MapR σ (es.modify (mpF ks k n) fun e=>{ e with key:=.string k,val:=y }) va (mpN ks k n) (jD ks k n) (iT ks vs k ds n):=by
 obtain ⟨h1,h2⟩:=h
 refine ⟨by rw [mpN,if_pos (by omega)]; simp [h1],fun i hi=>?_⟩
 simp only [Array.size_modify] at hi
 rw [Array.getElem_modify]
 by_cases hj:mpF ks k n=i
 ·rw [if_pos hj]
  simp only [jD,iT,hj,if_true]
  exact ⟨trivial,hy⟩
 ·rw [if_neg hj]
  simp only [jD,iT]
  rw [if_neg (fun e=>hj e.symm),if_neg (fun e=>hj e.symm)]
  exact h2 i hi
theorem MapR.push {σ:Sg} {es:Array MapEntry} {va:Bool} {n:Nat} {ks:Nat→ByteArray} {vs:Nat→List D} (h:MapR σ es va n ks vs) (k:ByteArray) {y:Value} {ds:List D} (hy:CellsV σ va y ds) (hf:¬mpF ks k n < es.size) (clock:Nat) :
  MapR σ (es.push { key:=.string k,val:=y,born:=clock }) va (mpN ks k n) (jD ks k n) (iT ks vs k ds n):=by
 obtain ⟨h1,h2⟩:=h
 have hn:=l8 ks k n
 have hm:mpF ks k n=n:=by omega
 refine ⟨by rw [mpN,if_neg (by omega)]; simp [h1],fun i hi=>?_⟩
 simp only [Array.size_push] at hi
 rw [Array.getElem_push]
 by_cases hj:i < es.size
 ·rw [dif_pos hj]
  simp only [jD,iT]
  rw [if_neg (by omega),if_neg (by omega)]
  exact h2 i hj
 ·rw [dif_neg hj]
  simp only [jD,iT]
  rw [if_pos (by omega),if_pos (by omega)]
  exact ⟨rfl,hy⟩
theorem nT (k:ByteArray):Instr.sameBits 10000 (.string k) (.string k)=true:=by
 show (k==k)=true
 exact (MapKept.bytes_beq k k).2 rfl
theorem aAD (m:Mem F B np w0 ext σ0 G hp tk w) {x y z:Value} {d e f:D} (hx:Rd F G tk x d) (hy:Rd F G tk y e) (hz:Rd F G tk z f) (id nn:Nat) {t kt et:TypeId} (ht:P.underlying t=some (.map kt et)) (hkt:P.underlying kt=some .string) {v:D} {u:Upd}
  (hh:(aT .mapSet id hp tk [d,e,f]).holds v u):Does F B np w0 ext σ0 G hp tk (((Instr.mapUpdate t x y z).run P w).andThen fun _ w=>.ok .skip w) id nn v u:=by
 cases d with
 | mref i =>
  cases e with
  | str k =>
   simp only [aT] at hh
   unfold tY at hh
   split at hh
   ·rename_i va n ks vs hi
    cases hb:(x3 f.isAgg va&&aG f.cells) with
    | false=>rw [hb] at hh; exact (aD hh).elim
    | true =>
     rw [hb] at hh
     obtain ⟨rfl,rfl⟩:=a6 hh
     have hb:=gR hb
     have hva:f.isAgg=va:=by
      have:=hb.1
      cases hfa:f.isAgg <;> cases va <;> first | rfl | (rw [hfa] at this; cases this)
     have hc:=wM hz hb.2
     rw [hva] at hc
     have e1:=hx.mref_inv
     have e2:=hy.str_inv
     subst e1 e2
     obtain ⟨es,clock,h1,h2⟩:=m.map hi
     have hfk:=h2.find (P:=P) hkt k w
     have hlt:G.β i < w.heap.size:=(Array.getElem?_eq_some_iff.1 h1).1
     have wr:∀ o:Obj,tT (G.β i) w { w with heap:=w.heap.setIfInBounds (G.β i) o }:=fun o=>⟨rfl,rfl,rfl,by simp,fun k hk=>by simp [Ne.symm hk]⟩
     have at_:∀ o:Obj,({ w with heap:=w.heap.setIfInBounds (G.β i) o }:World).heap[G.β i]? = some o:=fun o=>by simp [hlt]
     by_cases hf:mpF ks k n < es.size
     ·rw [dif_pos hf] at hfk
      have hke:es[mpF ks k n].key=.string k:=by
       rw [(h2.2 _ hf).1,xS ks k n (by have:=h2.1; omega)]
      refine ⟨_,.skip,undef,G,?_,.inr ⟨rfl,rfl⟩,m.setObj i _ [.dead,.mp va (mpN ks k n) (jD ks k n) (iT ks vs k (aJ f.cells) n)] hi (.map (es.modify (mpF ks k n) fun e=>{ e with key:=.string k,val:=z }) clock) (wr _) (at_ _) rfl
       (.inr (.inr ⟨_,_,_,_,_,_,_,rfl,rfl,(h2.set k hc hf).rc⟩)) (fun x va n ks vs h hx=>by cases h; exact absurd rfl hx),Rd.dead _,Keeps.refl _ _ _ _⟩
      unfold Instr.mapUpdate
      simp only [Sem.run_bind,run_underlying ht,Result.andThen_ok,MapKept.run_getObj_map h1,MapKept.run_checkKey (k:=.string k) hkt trivial,hfk]
      simp only [Instr.keyThatStays,hf,Array.getElem?_eq_getElem,Option.map_some,Option.getD_some,hke,nT,if_true,Sem.run_pure,Result.andThen_ok,MapKept.run_setObj_map _ h1,Sem.run_bind]
     ·rw [dif_neg hf] at hfk
      refine ⟨_,.skip,undef,G,?_,.inr ⟨rfl,rfl⟩,m.setObj i _ [.dead,.mp va (mpN ks k n) (jD ks k n) (iT ks vs k (aJ f.cells) n)] hi (.map (es.push { key:=.string k,val:=z,born:=clock }) (clock+1)) (wr _) (at_ _) rfl
       (.inr (.inr ⟨_,_,_,_,_,_,_,rfl,rfl,(h2.push k hc hf clock).rc⟩)) (fun x va n ks vs h hx=>by cases h; exact absurd rfl hx),Rd.dead _,Keeps.refl _ _ _ _⟩
      unfold Instr.mapUpdate
      simp only [Sem.run_bind,run_underlying ht,Result.andThen_ok,MapKept.run_getObj_map h1,MapKept.run_checkKey (k:=.string k) hkt trivial,hfk]
      simp only [MapKept.run_setObj_map _ h1,Result.andThen_ok]
   ·rename_i k' n ks vs hi
    cases hb:(f.isAgg&&aG f.cells) with
    | false=>rw [hb] at hh; exact (aD hh).elim
    | true =>
     rw [hb] at hh
     have hb:=gR hb
     simp only [cond_true] at hh
     split at hh
     ·rename_i u0 p hput
      obtain ⟨⟨rfl,hp'⟩,rfl,rfl⟩:=aW hh
      cases f with
      | agg l =>
       have hc:=wM hz hb.2
       simp only [D.isAgg,D.cells] at hc hput
       have e1:=hx.mref_inv
       have e2:=hy.str_inv
       subst e1 e2
       obtain ⟨es,clock,h1,h2⟩:=m.map hi
       have hfk:=h2.find (P:=P) hkt k' w
       have hlt:G.β i < w.heap.size:=(Array.getElem?_eq_some_iff.1 h1).1
       have wr:∀ o:Obj,tT (G.β i) w { w with heap:=w.heap.setIfInBounds (G.β i) o }:=fun o=>⟨rfl,rfl,rfl,by simp,fun k hk=>by simp [Ne.symm hk]⟩
       have at_:∀ o:Obj,({ w with heap:=w.heap.setIfInBounds (G.β i) o }:World).heap[G.β i]? = some o:=fun o=>by simp [hlt]
       by_cases hf:mpF ks k' n < es.size
       ·rw [dif_pos hf] at hfk
        have hke:es[mpF ks k' n].key=.string k':=by
         rw [(h2.2 _ hf).1,xS ks k' n (by have:=h2.1; omega)]
        obtain ⟨G',m',kk⟩:=m.put hi h1 hz hput hp' (wr (.map (es.modify (mpF ks k' n) fun e=>{ e with key:=.string k',val:=z }) clock)) (at_ _) (h2.set k' hc hf) (fun j hj=>by
         have hj':j < es.size:=by
          have:=h2.1
          have:=l8 ks k' n
          unfold mpN at hj
          split at hj <;> omega
         rw [lX (by simpa using hj'),Array.getElem_modify,lX hj']
         by_cases e:mpF ks k' n=j
         ·rw [if_pos e,if_pos e.symm]
         ·rw [if_neg e,if_neg (Ne.symm e)]) id (id+nn)
        refine ⟨_,.skip,undef,G',?_,.inr ⟨rfl,rfl⟩,m',Rd.dead _,kk⟩
        unfold Instr.mapUpdate
        simp only [Sem.run_bind,run_underlying ht,Result.andThen_ok,MapKept.run_getObj_map h1,MapKept.run_checkKey (k:=.string k') hkt trivial,hfk]
        simp only [Instr.keyThatStays,hf,Array.getElem?_eq_getElem,Option.map_some,Option.getD_some,hke,nT,if_true,Sem.run_pure,Result.andThen_ok,MapKept.run_setObj_map _ h1,Sem.run_bind]
       ·rw [dif_neg hf] at hfk
        obtain ⟨G',m',kk⟩:=m.put hi h1 hz hput hp' (wr (.map (es.push { key:=.string k',val:=z,born:=clock }) (clock+1))) (at_ _) (h2.push k' hc hf clock) (fun j hj=>by
         have hsz:=h2.1
         have hle:=l8 ks k' n
         have hm:mpF ks k' n=es.size:=by omega
         have hj':j < es.size+1:=by
          unfold mpN at hj
          split at hj <;> omega
         rw [lX (by simpa using hj'),Array.getElem_push]
         by_cases e:j < es.size
         ·rw [dif_pos e,if_neg (by omega),lX e]
         ·rw [dif_neg e,if_pos (by omega)]) id (id+nn)
        refine ⟨_,.skip,undef,G',?_,.inr ⟨rfl,rfl⟩,m',Rd.dead _,kk⟩
        unfold Instr.mapUpdate
        simp only [Sem.run_bind,run_underlying ht,Result.andThen_ok,MapKept.run_getObj_map h1,MapKept.run_checkKey (k:=.string k') hkt trivial,hfk]
        simp only [MapKept.run_setObj_map _ h1,Result.andThen_ok]
      | _=>cases hb.1
     ·exact (aD hh).elim
   ·exact (aD hh).elim
  | _=>exact (aD hh).elim
 | _=>exact (aD hh).elim
theorem wT {σ:Sg} (hσ:G.σ=σ) {va:Bool} {v:Value} {ds:List D} (h:CellsV σ va v ds) (comma ok:Bool):Rd F G tk (if comma then .tuple #[v,.bool ok] else v) (mA comma va ok ds):=by
 subst hσ
 have hrt:Rt F G tk v (mkv va (aJ ds))∧Ra F G tk v (mkv va (aJ ds)):=by
  rcases h with ⟨rfl,cs,rfl,h2,h3⟩ | ⟨rfl,h2,h3⟩
  ·have hj:∀ j,j < (aJ ds).length→Rp G.σ (cs.getD j undef) (nth (aJ ds) j .dead)∧nth (aJ ds) j .dead=(nth (aJ ds) j .dead).pure1:=fun j hj=>by
    rw [aI] at hj
    rw [aX]
    exact ⟨h3 j hj,(bH _).symm⟩
   refine ⟨.agg cs _ (by rw [aI]; exact h2) hj,.agg cs _ (by rw [aI]; exact h2) fun j hj'=>?_⟩
   rw [(hj j hj').2]
   exact .pure ((hj j hj').2 ▸ (hj j hj').1) (bT _ _)
  ·have:mkv false (aJ ds)=(nth ds 0 .dead).pure1:=by
    simp only [mkv,cond_false]
    rw [aX]
   rw [this]
   exact ⟨.cell (.pure h3 (bT _ _)),.cell (.pure h3 (bT _ _))⟩
 cases comma with
 | false=>simpa [mA] using Rd.any hrt.2
 | true =>
  simp only [mA,if_true,cond_true]
  refine .tup _ _ (by simp) fun j hj=>?_
  rcases j with _ | _ | j
  ·simpa [nth] using hrt.1
  ·simpa [nth] using Rt.cell (.pure (.bool ok) trivial)
  ·simp at hj; omega
theorem zM {t:TypeId} {va:Bool} {l:List D} (h:uB P t=some (va,l)) (σ:Sg):∃ i zv,P.info? t=some i∧i.zero=some zv∧CellsV σ va zv l:=by
 unfold uB at h
 cases hi:P.info? t with
 | none=>simp [hi] at h
 | some i =>
  simp only [hi] at h
  cases hz:i.zero with
  | none=>simp [hz] at h
  | some zv =>
   simp only [hz] at h
   refine ⟨i,zv,rfl,hz,?_⟩
   have other:(gQ zv).map (fun d=>(false,eK [d] (eV P 20 t)))=some (va,l)→CellsV σ va zv l:=by
    intro h
    rw [Option.map_eq_some_iff] at h
    obtain ⟨d,h1,h2⟩:=h
    cases h2
    have hc:cM [zv]=some [d]:=by simp [cM,h1]
    obtain ⟨_,h3⟩:=cX (F:=fun _=>0) (G:=⟨σ,fun _=>0,fun _=>undef,fun _ _=>none,fun _=>none⟩) (tk:=fun _=>none) hc
    refine .inr ⟨rfl,by rw [cE]; rfl,?_⟩
    have:=lT h3 (eV P 20 t) 0 (by rw [cE]; simp)
    exact this.pure1
   cases zv with
   | agg cs =>
    simp only [Option.map_eq_some_iff] at h
    obtain ⟨l',h1,h2⟩:=h
    cases h2
    obtain ⟨h2,h3⟩:=cX (F:=fun _=>0) (G:=⟨σ,fun _=>0,fun _=>undef,fun _ _=>none,fun _=>none⟩) (tk:=fun _=>none) h1
    refine .inl ⟨rfl,cs,rfl,by rw [cE,← h2]; simp,fun j hj=>?_⟩
    have:=lT h3 (eV P 20 t) j hj
    rw [← bB] at this
    exact this.pure1
   | _=>exact other h
theorem aCA {c:Bool} {o:Out} {v:D} {u:Upd} (h:(bif c then o else Out.bad).holds v u):c=true∧o.holds v u:=by
 cases c with
 | true=>exact ⟨rfl,h⟩
 | false=>exact (aD h).elim
theorem aDV {t:TypeId} {l:List D} (h:uB P t=some (true,l)):∃ i zv,P.info? t=some i∧i.zero=some zv∧Ra F G tk zv (.agg l):=by
 unfold uB at h
 cases hi:P.info? t with
 | none=>simp [hi] at h
 | some i =>
  simp only [hi] at h
  cases hz:i.zero with
  | none=>simp [hz] at h
  | some zv =>
   simp only [hz] at h
   refine ⟨i,zv,rfl,hz,?_⟩
   cases zv with
   | agg cs =>
    simp only [Option.map_eq_some_iff] at h
    obtain ⟨l',h1,h2⟩:=h
    cases h2
    obtain ⟨h2,h3⟩:=cX (F:=F) (G:=G) (tk:=tk) h1
    refine .agg cs _ (by rw [cE,← h2]; simp) (fun j hj=>?_)
    have:=lT h3 (eV P 20 t) j hj
    rw [← bB] at this
    exact this
   | _ =>
    simp only [Option.map_eq_some_iff] at h
    obtain ⟨_,_,h2⟩:=h
    cases h2
theorem aAM (m:Mem F B np w0 ext σ0 G hp tk w) {x y:Value} {d e:D} (hx:Rd F G tk x d) (hy:Rd F G tk y e) {id nn:Nat} (fr:Free hp tk id (id+nn)) {t kt et:TypeId} (ht:P.underlying t=some (.map kt et)) (hkt:P.underlying kt=some .string) (comma:Bool) {va:Bool} {zero:List D} (hnn:va=true→zero.length+1≤nn) (hz:uB P et=some (va,zero)) {v:D} {u:Upd}
  (hh:(aT (.mapGet comma va zero) id hp tk [d,e]).holds v u):Does F B np w0 ext σ0 G hp tk (((Instr.lookup t x y comma).run P w).andThen fun v w=>.ok (.value v) w) id nn v u:=by
 cases d with
 | mref i =>
  cases e with
  | str k =>
   simp only [aT] at hh
   unfold t6 at hh
   split at hh
   ·rename_i va' n ks vs hi
    cases hb:x3 va' va with
    | false=>rw [hb] at hh; exact (aD hh).elim
    | true =>
     rw [hb] at hh
     simp only [cond_true] at hh
     have hva:va'=va:=by cases va' <;> cases va <;> first | rfl | cases hb
     subst hva
     have e1:=hx.mref_inv
     have e2:=hy.str_inv
     subst e1 e2
     obtain ⟨es,clock,h1,h2⟩:=m.map hi
     have hfk:=h2.find (P:=P) hkt k w
     rcases bW hh with ⟨hc,rfl,rfl⟩ | ⟨hc,rfl,rfl⟩
     ·have hf:mpF ks k n < es.size:=by rw [h2.1]; simpa using hc
      rw [dif_pos hf] at hfk
      refine Does.val m (wT rfl (h2.2 _ hf).2 comma true) ?_ _ _
      unfold Instr.lookup
      simp only [Sem.run_bind,run_underlying ht,Result.andThen_ok,MapKept.run_getObj_map h1,Sem.run_pure,MapKept.run_checkKey (k:=.string k) hkt trivial,hfk]
     ·have hf:¬mpF ks k n < es.size:=by rw [h2.1]; simpa using hc
      rw [dif_neg hf] at hfk
      obtain ⟨i',zv,hi',hzv,hcz⟩:=zM hz G.σ
      refine Does.val m (wT rfl hcz comma false) ?_ _ _
      unfold Instr.lookup
      simp only [Sem.run_bind,run_underlying ht,Result.andThen_ok,MapKept.run_getObj_map h1,Sem.run_pure,MapKept.run_checkKey (k:=.string k) hkt trivial,hfk]
      have hzr:(zeroValue et).run P w=.ok zv w:=by simp [zeroValue,typeInfo,program,Sem.run,hi',hzv]
      simp only [hzr,Result.andThen_ok,Sem.run_bind,Sem.run_pure]
   ·rename_i n ks vs hi
    obtain ⟨hb,hh2⟩:=aCA hh
    simp only [Bool.and_eq_true,Bool.not_eq_true'] at hb
    obtain ⟨⟨⟨⟨rfl,rfl⟩,_⟩,hlen⟩,hone⟩:=hb
    have hlen:=Nat.eq_of_beq_eq_true hlen
    have hone:=Nat.le_of_ble_eq_true hone
    have hnn:=hnn rfl
    have e1:=hx.mref_inv
    have e2:=hy.str_inv
    subst e1 e2
    obtain ⟨es,clock,h1,h2⟩:=m.map hi
    have hfk:=h2.find (P:=P) hkt k w
    rcases bW hh2 with ⟨hc,rfl,rfl⟩ | ⟨hc,rfl,rfl⟩
    ·have hf:mpF ks k n < es.size:=by rw [h2.1]; simpa using hc
     rw [dif_pos hf] at hfk
     obtain ⟨G',m',kk,hr⟩:=m.take hi k h1 h2 hf fr (by omega) hone
     refine ⟨w,.value es[mpF ks k n].val,_,G',?_,.inl rfl,m',hr,kk⟩
     unfold Instr.lookup
     simp only [Sem.run_bind,run_underlying ht,Result.andThen_ok,MapKept.run_getObj_map h1,Sem.run_pure,MapKept.run_checkKey (k:=.string k) hkt trivial,hfk,Bool.false_eq_true,if_false]
    ·have hf:¬mpF ks k n < es.size:=by rw [h2.1]; simpa using hc
     rw [dif_neg hf] at hfk
     obtain ⟨i',zv,hi',hzv,hcz⟩:=aDV (F:=F) (G:=G) (tk:=tk) hz
     refine ⟨w,.value zv,_,G,?_,.inl rfl,m.mark hi k,.any hcz,Keeps.refl _ _ _ _⟩
     unfold Instr.lookup
     simp only [Sem.run_bind,run_underlying ht,Result.andThen_ok,MapKept.run_getObj_map h1,Sem.run_pure,MapKept.run_checkKey (k:=.string k) hkt trivial,hfk]
     have hzr:(zeroValue et).run P w=.ok zv w:=by simp [zeroValue,typeInfo,program,Sem.run,hi',hzv]
     simp only [hzr,Result.andThen_ok,Sem.run_bind,Sem.run_pure,Bool.false_eq_true,if_false]
   ·exact (aD hh).elim
  | _=>exact (aD hh).elim
 | _=>exact (aD hh).elim
end
section
variable {P:Program} {F:Nat→FuncId} {B np:Nat} {w0 w w':World} {ext:List Nat} {σ0:Og} {G:Gh} {hp:Nat→Option (Bool×List D)} {tk:Nat→Option (Nat×Nat)}
theorem xN (m:Mem F B np w0 ext σ0 G hp tk w) {x:Value} {d:D} (hx:Rd F G tk x d) {id nn:Nat} (hn:0 < nn) (fr:Free hp tk id (id+nn)) {t:TypeId} (ht:P.underlying t=some .string) {v:D} {u:Upd}
  (hh:(aT .iterStr id hp tk [d]).holds v u):Does F B np w0 ext σ0 G hp tk (((Instr.range t x).run P w).andThen fun v w=>.ok (.value v) w) id nn v u:=by
 cases d with
 | str s =>
  simp only [aT] at hh
  obtain ⟨rfl,rfl⟩:=a6 hh
  have:=hx.str_inv
  subst this
  have m1:=m.allocObj (.stringIter s 0)
  have hle:=dW m (fun _=>none)
  have hk:Keeps id (id+nn) G { σ:=aH G.σ w.heap.size (fun _=>none),β:=fun j=>if j=id then w.heap.size else G.β j,ρ:=G.ρ,η:=G.η,γ:=G.γ } tk tk :=
   ⟨hle,fun j hj=>by simp only; rw [if_neg (by omega)],fun _ z m _ e=>⟨z,m,e,Nat.le_refl _,fun _=>rfl⟩,fun _ _ _ _ e=>e⟩
  have m2:=m1.addObj id w.heap.size [.dead,.str s,.int .i64 0] (.stringIter s 0) (heap_alloc_new w _) (.inr (.inl ⟨s,0,rfl,rfl⟩)) (fun o=>by simp [aH])
   (fun k hk=>by have:=m.own_lt (k:=k) (b:=w.heap.size) (by cases k <;> exact hk); omega) (.inl m.base) (fr.var ⟨Nat.le_refl _,by omega⟩)
   (fun id' f cs' h=>cT (fr.hp id' f cs' h).2 (Nat.le_refl _) (by omega)) m.resv_new (fun x va n ks vs h _=>by cases h)
  refine ⟨_,_,_,_,?_,.inl rfl,m2,.any (.cell (.ptr id 0)),hk⟩
  rw [run_range_string w t s ht]
  simp [World.iter]
 | _=>exact (aD hh).elim
theorem yC (m:Mem F B np w0 ext σ0 G hp tk w) {x:Value} {d:D} (hx:Rd F G tk x d) (id nn:Nat) (ty:TypeId) {v:D} {u:Upd}
  (hh:(aT .nextStr id hp tk [d]).holds v u):Does F B np w0 ext σ0 G hp tk (((Instr.next x true ty).run P w).andThen fun v w=>.ok (.value v) w) id nn v u:=by
 cases d with
 | ptr i o =>
  cases o with
  | succ o=>exact (aD hh).elim
  | zero =>
   simp only [aT] at hh
   unfold oY at hh
   split at hh
   ·rename_i s p hi
    have hxx:=hx.ptr_inv
    subst hxx
    obtain ⟨ob,hb,hob,hσ⟩:=m.vars i _ hi rfl
    rcases hob with ⟨h1,_⟩ | ⟨s',pos,rfl,h1⟩ | ⟨_,_,_,_,_,_,_,_,h1,_⟩
    rotate_right
    ·simp at h1
    ·simp [aG] at h1
    ·simp only [List.cons.injEq,D.str.injEq,D.int.injEq,true_and,and_true] at h1
     obtain ⟨rfl,rfl⟩:=h1
     rcases bW hh with ⟨hc,rfl,rfl⟩ | ⟨hc,rfl,rfl⟩
     ·have hlt:pos < s.size:=by
       simp only [Bool.and_eq_true,decide_eq_true_eq] at hc
       omega
      refine ⟨w.iterAt (G.β i) s (pos+(Utf8.decode s pos).2),_,_,G,?_,.inl rfl,m.setObj i _ _ hi (.stringIter s (pos+(Utf8.decode s pos).2)) ⟨rfl,rfl,rfl,Lib.iterAt_size _ _ _ _,fun k hk=>Lib.iterAt_other _ _ _ _ _ hk⟩
       (Lib.iterAt_heap w (G.β i) s pos _ hb) rfl (.inr (.inl ⟨s,_,rfl,?_⟩)) (fun x va n ks vs h _=>by cases h),.tup #[.bool true,.int .i64 pos,.int .i32 (Utf8.decode s pos).1] _ (by simp) ?_,Keeps.refl _ _ _ _⟩
      ·rw [Lib.run_next_any_at w (G.β i) s pos ty hb hlt]
       rfl
      ·simp
      ·intro j hj
       simp only [Int.toNat_natCast]
       rcases j with _ | _ | _ | j
       ·exact .cell (.pure (.bool _) trivial)
       ·exact .cell (.pure (.int _ _) trivial)
       ·exact .cell (.pure (.int _ _) trivial)
       ·exfalso; simp only [List.length_cons,List.length_nil] at hj; omega
     ·have hlt:¬pos < s.size:=by
       intro h
       simp only [Bool.and_eq_false_iff,decide_eq_false_iff_not] at hc
       omega
      refine ⟨w,_,_,G,?_,.inl rfl,m,.tup #[.bool false] _ (by simp) ?_,Keeps.refl _ _ _ _⟩
      ·rw [Lib.run_next_end_at w (G.β i) s pos ty hb hlt]
       rfl
      ·intro j hj
       rcases j with _ | j
       ·exact .cell (.pure (.bool _) trivial)
       ·exfalso; simp only [List.length_cons,List.length_nil] at hj; omega
   ·exact (aD hh).elim
 | _=>exact (aD hh).elim
end
section
variable {P:Program} {F:Nat→FuncId} {B np:Nat} {w0 w w':World} {ext:List Nat} {σ0:Og} {G G':Gh} {s:St} {a:Act} {ft:FT}
abbrev dA (P:Program) (F:Nat→FuncId) (B np:Nat) (w0:World) (ext:List Nat) (σ0:Og) (G:Gh) (s:St) (w:World) (run:Result Next) (tr:Option (AOp×List AX)):Prop :=
 ∀ ao xs,tr=some (ao,xs)→dG ao=false→∀ id,np≤id→Clean id (id+bD ao) s→∀ v u,(aT ao id s.hp s.tk (evs s.fr xs)).holds v u→Does F B np w0 ext σ0 G s.hp s.tk run id (bD ao) v u
theorem aAV {y:Operand} (h:s6 y=true):y=.const (.pointer none):=by
 unfold s6 at h
 split at h
 ·rfl
 ·cases h
theorem t5 {op:BinOp} {p b:Bool} {a c:AX} {ao:AOp} {xs:List AX} (h:aC9 op p b [a,c]=some (ao,xs)):∃ neg,op=(if neg then .neq else .eql)∧ao=.isNil p neg∧xs=[a]∧b=true:=by
 simp only [aC9] at h
 cases b with
 | false=>cases h
 | true =>
  simp only [cond_true] at h
  split at h
  ·cases h; exact ⟨false,rfl,rfl,rfl,rfl⟩
  ·cases h; exact ⟨true,rfl,rfl,rfl,rfl⟩
  ·cases h
theorem wB {t:TypeId} {g:Bool} {z:List D} (h:aFE P t=some (g,z)):∃ k e,P.underlying t=some (.map k e)∧P.underlying k=some .string∧uB P e=some (g,z):=by
 unfold aFE at h
 split at h
 ·rename_i k e hu
  split at h
  ·rename_i hk
   exact ⟨k,e,hu,hk,h⟩
  ·cases h
 ·cases h
section ops
variable (hft:∀ f j,ag ft f=some j→F j=f) (r:Rel F B np w0 ext σ0 G s a w)
 include hft r
theorem aF4 (ty:TypeId) (x:Operand):dA P F B np w0 ext σ0 G s w (.ok (.value (a.eval x)) w) (yJ P ft ty x):=by
 intro ao xs ht _ id hnp hcl v u hh
 unfold yJ at ht
 split at ht
 ·rename_i hx
  have:=nQ hx
  subst this
  rw [Option.map_eq_some_iff] at ht
  obtain ⟨z,_,h⟩:=ht
  cases h
  exact aB3 r.mem (by simp [bD]) hcl.free z hh
 ·rw [Option.map_eq_some_iff] at ht
  obtain ⟨ax,h1,h⟩:=ht
  cases h
  exact aD5 r.mem (xB (a9 hft r h1) _) _ _ hh
theorem aG2 (t:TypeId):dA P F B np w0 ext σ0 G s w (((Instr.alloc t true (.tuple #[])).run P w).andThen fun v w=>.ok (.value v) w) (xM P t):=by
 have _:=hft
 intro ao xs ht _ id hnp hcl v u hh
 unfold xM at ht
 split at ht
 ·rename_i ds n hz hs
  split at ht
  ·cases ht
   obtain ⟨i,zv,hi,hzv,hds⟩:=fT hz
   exact aCS r.mem t hi hzv hds _ rfl (y0 _ _) hcl.free hh
  ·cases ht
 ·cases ht
theorem aHJ (t:TypeId) (parts:Array (Nat×Operand)):dA P F B np w0 ext σ0 G s w (((Instr.build t (parts.map fun (i,x)=>(i,a.eval x))).run P w).andThen fun v w=>.ok (.value v) w) (yS P ft t parts):=by
 intro ao xs ht _ id hnp hcl v u hh
 unfold yS at ht
 split at ht
 ·rename_i fs z l hu hz hx
  split at ht
  ·rename_i hsz
   rw [Option.map_eq_some_iff] at ht
   obtain ⟨qs,h1,h⟩:=ht
   cases h
   obtain ⟨i,zv,hi,hzv,hds⟩:=fT hz
   obtain ⟨places,h2,h3⟩:=o9 fs.toList hsz
   refine tO (place:=(places.toArray[·]?)) r.mem _ qs _ hi hzv hds (fun cells hf=>?_) ?_ hh
   ·simp only [Program.built,hi,hu,hzv,h2]
    exact hf
   ·rw [Array.toList_map]
    refine m9 hft r (fun i q hq=>?_) parts.toList qs _ h1 hx
    have:=h3 i
    simp only [List.getElem?_toArray]
    rw [this,← hq,Array.getElem?_toList]
    all_goals (cases fs[i]? <;> rfl)
  ·cases ht
 ·rename_i n e z l hu hz hx
  split at ht
  ·rename_i n hn
   rw [Option.map_eq_some_iff] at ht
   obtain ⟨qs,h1,h⟩:=ht
   cases h
   obtain ⟨i,zv,hi,hzv,hds⟩:=fT hz
   obtain ⟨ie,hie,rfl⟩:=oB hn
   have hpr:kA F G s.tk (fun k=>some (k * ie.size,ie.size)) (parts.map fun (i,x)=>(i,a.eval x)).toList qs (evs s.fr xs):=by
    rw [Array.toList_map]
    exact m9 hft r (fun i q hq=>hq) parts.toList qs xs h1 hx
   have hbu:∀ cells,Instr.fill (fun k=>some (k * ie.size,ie.size)) zv.cells (parts.map fun (i,x)=>(i,a.eval x)).toList=some cells→P.built t (parts.map fun (i,x)=>(i,a.eval x)).toList=some cells:=by
    intro cells hf
    simp only [Program.built,hi,hu,hzv,hie]
    exact hf
   exact tO r.mem _ qs (evs s.fr xs) hi hzv hds hbu hpr hh
  ·cases ht
 ·cases ht
theorem yH (t:TypeId) (len:Nat) (parts:Array (Nat×Operand)):dA P F B np w0 ext σ0 G s w (((Instr.buildSlice t len (parts.map fun (i,x)=>(i,a.eval x))).run P w).andThen fun v w=>.ok (.value v) w) (kE P ft t len parts):=by
 intro ao xs ht _ id hnp hcl v u hh
 unfold kE at ht
 split at ht
 ·rename_i e l hu hx
  split at ht
  ·rename_i n z hs hz
   split at ht
   ·rename_i hb
    rw [Option.map_eq_some_iff] at ht
    obtain ⟨qs,h1,h⟩:=ht
    cases h
    obtain ⟨i,zv,hi,hzv,hds⟩:=fT hz
    obtain ⟨i',hi',rfl⟩:=oB hs
    rw [hi] at hi'
    cases hi'
    have hpr:kA F G s.tk (fun k=>some (k * i.size,i.size)) (parts.map fun (i,x)=>(i,a.eval x)).toList qs (evs s.fr xs):=by
     rw [Array.toList_map]
     exact m9 hft r (fun i q hq=>hq) parts.toList qs xs h1 hx
    exact rN r.mem _ qs (evs s.fr xs) hu hi hzv hds hb.2 hb.1 hpr hh
   ·cases ht
  ·cases ht
 ·cases ht
theorem aH1 (t:TypeId) (x:Operand):dA P F B np w0 ext σ0 G s w (((Instr.loadAt t (a.eval x)).run P w).andThen fun v w=>.ok (.value v) w) (aB0 P ft t x):=by
 intro ao xs ht _ id hnp hcl v u hh
 unfold aB0 at ht
 split at ht
 ·rename_i ax g n h1 h2 h3
  split at ht
  ·rename_i hgn
   cases ht
   exact aDQ r.mem (a9 hft r h1) _ _ h2 h3 hgn hh
  ·cases ht
 ·cases ht
theorem aG5 (t:TypeId) (x y:Operand):dA P F B np w0 ext σ0 G s w (((Instr.storeAt t (a.eval x) (a.eval y)).run P w).andThen fun _ w=>.ok .skip w) (x9 P ft t x y):=by
 intro ao xs ht _ id hnp hcl v u hh
 unfold x9 at ht
 split at ht
 ·rename_i ax ay n h1 h2 h3
  cases ht
  exact aBO r.mem (a9 hft r h1) (xB (a9 hft r h2) _) _ _ h3 hh
 ·cases ht
theorem zA (st:TypeId) (x:Operand) (f:Nat):dA P F B np w0 ext σ0 G s w (((Instr.fieldAt st (a.eval x) f).run P w).andThen fun v w=>.ok (.value v) w) (mH P ft st x f):=by
 intro ao xs ht _ id hnp hcl v u hh
 unfold mH at ht
 split at ht
 ·rename_i fs ax hu h1
  split at ht
  ·rename_i fl hf
   split at ht
   ·rename_i n hn
    split at ht
    ·cases ht
    ·rename_i h0
     cases ht
     exact tN r.mem (a9 hft r h1) _ _ hu hf hn h0 hh
   ·cases ht
  ·cases ht
 ·cases ht
theorem aGT (st:TypeId) (x:Operand) (f:Nat):dA P F B np w0 ext σ0 G s w (((Instr.field st (a.eval x) f).run P w).andThen fun v w=>.ok (.value v) w) (wY P ft st x f):=by
 intro ao xs ht _ id hnp hcl v u hh
 unfold wY at ht
 split at ht
 ·rename_i fs ax hu h1
  split at ht
  ·rename_i fl hf
   split at ht
   ·rename_i g n hg hn
    split at ht
    ·rename_i hgn
     cases ht
     exact aCM r.mem (a9 hft r h1) _ _ hu hf hg hn hgn hh
    ·cases ht
   ·cases ht
  ·cases ht
 ·cases ht
theorem aA7 (t:TypeId) (x i:Operand):dA P F B np w0 ext σ0 G s w (((Instr.indexAt t (a.eval x) (a.eval i)).run P w).andThen fun v w=>.ok (.value v) w) (mQ P ft t x i):=by
 intro ao xs ht _ id hnp hcl v u hh
 unfold mQ at ht
 split at ht
 ·rename_i e ax ai hu h1 h2
  rw [Option.map_eq_some_iff] at ht
  obtain ⟨k,hk,h⟩:=ht
  cases h
  exact l7 r.mem (a9 hft r h1) (a9 hft r h2) _ _ hu hk hh
 ·rename_i len e ax ai hu h1 h2
  rw [Option.map_eq_some_iff] at ht
  obtain ⟨k,hk,h⟩:=ht
  cases h
  exact oH r.mem (a9 hft r h1) (a9 hft r h2) _ _ hu hk hh
 ·cases ht
theorem aHI (t:TypeId) (x i:Operand):dA P F B np w0 ext σ0 G s w (((Instr.index t (a.eval x) (a.eval i)).run P w).andThen fun v w=>.ok (.value v) w) (wZ P ft t x i):=by
 intro ao xs ht _ id hnp hcl v u hh
 unfold wZ at ht
 split at ht
 ·rename_i ax ai hu h1 h2
  cases ht
  exact uQ r.mem (a9 hft r h1) (a9 hft r h2) _ _ hu hh
 ·rename_i len e ax ai hu h1 h2
  split at ht
  ·rename_i g n hg hn
   split at ht
   ·rename_i hgn
    cases ht
    exact uM r.mem (a9 hft r h1) (a9 hft r h2) _ _ hu hg hn hgn hh
   ·cases ht
  ·cases ht
 ·cases ht
theorem aHG (t:TypeId) (x:Operand) (lo hi mx:Option Operand):dA P F B np w0 ext σ0 G s w (((Instr.sliceAt t (a.eval x) (lo.map a.eval) (hi.map a.eval) (mx.map a.eval)).run P w).andThen fun v w=>.ok (.value v) w) (yN P ft np t x lo hi mx):=by
 intro ao xs ht _ id hnp hcl v u hh
 unfold yN at ht
 split at ht
 ·rename_i e ax l hu h1 hl
  obtain ⟨l1,hl1,o1⟩:=jK hft r hl
  obtain ⟨l2,hl2,o2⟩:=jK hft r hl1
  obtain ⟨l3,hl3,o3⟩:=jK hft r hl2
  have:=zS hl3
  subst this
  split at ht
  ·cases ht
  ·rename_i hmx
   rw [Option.map_eq_some_iff] at ht
   obtain ⟨k,hk,h⟩:=ht
   cases h
   refine yL r.mem (a9 hft r h1) o1 o2 o3 (fun h=>?_) _ _ hu hk hh
   cases hi <;> simp_all
 ·rename_i ax l hu h1 hl
  obtain ⟨l1,hl1,o1⟩:=jK hft r hl
  obtain ⟨l2,hl2,o2⟩:=jK hft r hl1
  obtain ⟨l3,hl3,o3⟩:=jK hft r hl2
  have:=zS hl3
  subst this
  split at ht
  ·cases ht
  ·rename_i hmx
   cases ht
   have hm0:mx=none:=by cases mx <;> simp_all
   subst hm0
   have e2:evs s.fr l2=[]:=by
    have:l2=[]:=by simpa [xA] using hl2.symm
    rw [this]
    rfl
   rw [e2] at o2
   exact uU r.mem (a9 hft r h1) o1 o2 _ _ hu hh
 ·rename_i len e ax l hu h1 hl
  split at ht
  ·rename_i hno
   rw [Option.map_eq_some_iff] at ht
   obtain ⟨k,hk,h⟩:=ht
   cases h
   simp only [Bool.and_eq_true,Option.isNone_iff_eq_none] at hno
   obtain ⟨⟨rfl,rfl⟩,rfl⟩:=hno
   exact uN r.mem (a9 hft r h1) _ _ hu hk hh
  ·cases ht
 ·cases ht
theorem aIS (op:BinOp) (t:TypeId) (x y:Operand):dA P F B np w0 ext σ0 G s w (((do eqGuard op t x y (a.eval x) (a.eval y); binOp op t (a.eval x) (a.eval y):Sem Value).run P w).andThen fun v w=>.ok (.value v) w) (aGC P ft op t x y):=by
 intro ao xs ht _ id hnp hcl v u hh
 unfold aGC at ht
 split at ht
 ·rename_i l hx
  obtain ⟨p,q,rfl,e1,e2⟩:=aDK hx
  have agg:bJ P t=some true→aGV P op t [p,q]=some (ao,xs)→Does F B np w0 ext σ0 G s.hp s.tk (((do eqGuard op t x y (a.eval x) (a.eval y); binOp op t (a.eval x) (a.eval y):Sem Value).run P w).andThen fun v w=>.ok (.value v) w) id (bD ao) v u:=by
   intro hag h
   unfold aGV at h
   split at h
   ·rename_i n hn
    split at hn
    ·cases hn
    ·rename_i hg
     split at h
     ·cases h
      exact sU r.mem (a9 hft r e1) (a9 hft r e2) _ _ false (by simpa using hg) hn hag hh
     ·cases h
   ·rename_i n hn
    split at hn
    ·cases hn
    ·rename_i hg
     split at h
     ·cases h
      exact sU r.mem (a9 hft r e1) (a9 hft r e2) _ _ true (by simpa using hg) hn hag hh
     ·cases h
   ·cases h
  split at ht
  ·rename_i fs hu
   exact agg (by simp [bJ,hu]) ht
  ·rename_i n e hu
   exact agg (by simp [bJ,hu]) ht
  ·rename_i hu
   split at ht
   ·cases ht
    exact vN r.mem (a9 hft r e1) (a9 hft r e2) _ _ false hu (ox:=x) (oy:=y) hh
   ·cases ht
    exact vN r.mem (a9 hft r e1) (a9 hft r e2) _ _ true hu (ox:=x) (oy:=y) hh
   ·cases ht
  ·cases ht
   exact aBC r.mem (a9 hft r e1) (a9 hft r e2) _ _ op (t:=t) (ox:=x) (oy:=y) hh
  ·cases ht
   exact aBC r.mem (a9 hft r e1) (a9 hft r e2) _ _ op (t:=t) (ox:=x) (oy:=y) hh
  ·rename_i e hu
   obtain ⟨neg,rfl,rfl,rfl,hy⟩:=t5 ht
   have:=nQ hy
   subst this
   exact y3 r.mem (a9 hft r e1) _ _ neg hu (ox:=x) (oy:=.const (.slice none 0 0)) hh
  ·rename_i e hu
   obtain ⟨neg,rfl,rfl,rfl,hy⟩:=t5 ht
   have:=aAV hy
   subst this
   exact y9 r.mem (a9 hft r e1) _ _ neg hu (ox:=x) (oy:=.const (.pointer none)) hh
  ·cases ht
 ·cases ht
theorem aH9 (src dst:TypeId) (x:Operand):dA P F B np w0 ext σ0 G s w (((convert src dst (a.eval x)).run P w).andThen fun v w=>.ok (.value v) w) (aB9 P ft src dst x):=by
 intro ao xs ht _ id hnp hcl v u hh
 unfold aB9 at ht
 split at ht
 ·rename_i ks kd ax hs hd h1
  cases ht
  exact xW r.mem (a9 hft r h1) _ _ hs hd hh
 ·rename_i ax hs hd h1
  cases ht
  exact xD r.mem (a9 hft r h1) _ _ hs hd hh
 ·rename_i k ax hs hd h1
  cases ht
  exact uY r.mem (a9 hft r h1) _ _ hs hd hh
 ·rename_i e ax hs hd h1
  split at ht
  ·rename_i he
   cases ht
   exact aE5 r.mem (a9 hft r h1) _ _ hs hd he hh
  ·cases ht
 ·rename_i e ax hs hd h1
  split at ht
  ·rename_i he
   cases ht
   exact aF8 r.mem (a9 hft r h1) _ _ hs he hd hh
  ·cases ht
 ·cases ht
theorem aCK (fn:Fn) (first caps:Array Operand):dA P F B np w0 ext σ0 G s w (.ok (.value (.func fn (first.map a.eval) (caps.map a.eval))) w) (oJ ft np fn first caps):=by
 intro ao xs ht _ id hnp hcl v u hh
 unfold oJ at ht
 split at ht
 ·rename_i f
  split at ht
  ·rename_i hemp
   split at ht
   ·rename_i j cs hj hcs
    cases ht
    obtain ⟨h1,h2,h3⟩:=aCL hft r hcs
    have:=hft f j hj
    subst this
    have hd:=zK r.mem (evs s.fr xs) (caps.map a.eval) (by rw [h2,← h1]; simp) (fun k hk=>by
     have:=h3 k (by omega)
     rw [bB,Array.toList_map]
     exact this) id (bD (.mkfunc j np)) j hh
    have hf:first.map a.eval=#[]:=by
     have:first=#[]:=by simpa using hemp
     subst this
     simp
    rw [hf]
    exact hd
   ·cases ht
  ·cases ht
 ·cases ht
theorem zY (t:TypeId) (l c:Operand):dA P F B np w0 ext σ0 G s w (((Instr.makeSlice t (a.eval l) (a.eval c)).run P w).andThen fun v w=>.ok (.value v) w) (mE P ft t l c):=by
 intro ao xs ht _ id hnp hcl v u hh
 unfold mE at ht
 split at ht
 ·rename_i e hu
  split at ht
  ·rename_i i z as hi hz hx
   split at ht
   ·rename_i hb
    cases ht
    obtain ⟨p,q,rfl,e1,e2⟩:=aDK hx
    obtain ⟨i',zv,hi',hzv,hds⟩:=fT hz
    rw [hi] at hi'
    cases hi'
    exact uE r.mem (a9 hft r e1) (a9 hft r e2) hnp (by simp [bD]) hcl.free hu hi hzv hds hb.2.1 hb.1 hb.2.2 hh
   ·cases ht
  ·cases ht
 ·cases ht
theorem aIQ (x:Operand) (t ty:TypeId):dA P F B np w0 ext σ0 G s w (((Builtin.len_ #[t] ty #[a.eval x]).run P w).andThen fun v w=>.ok (.value v) w) (aDF P ft x t):=by
 intro ao xs ht _ id hnp hcl v u hh
 unfold aDF at ht
 split at ht
 ·rename_i e ax hu h1
  cases ht
  exact zL r.mem (a9 hft r h1) _ _ hh ⟨_,hu⟩
 ·rename_i ax hu h1
  cases ht
  exact zL r.mem (a9 hft r h1) _ _ hh hu
 ·rename_i k e ax hu h1
  cases ht
  exact aAT r.mem (a9 hft r h1) _ _ hu hh
 ·cases ht
theorem aFJ (x y:Operand) (t u' ty:TypeId):dA P F B np w0 ext σ0 G s w (((Builtin.append_ #[t,u'] ty #[a.eval x,a.eval y]).run P w).andThen fun v w=>.ok (.value v) w) (o5 P ft x y t u'):=by
 intro ao xs ht _ id hnp hcl v u hh
 unfold o5 at ht
 split at ht
 ·rename_i e du l hu hu' hx
  split at ht
  ·rename_i i z hk hi hz
   split at ht
   ·rename_i hb
    cases ht
    obtain ⟨p,q,rfl⟩:=aG7 hx
    obtain ⟨i',zv,hi',hzv,hds⟩:=fT hz
    rw [hi] at hi'
    cases hi'
    obtain ⟨h1,h2,h3⟩:=qR hft r hx
    exact yU r.mem hu hu' hk hi hzv hds hb.2.1 hb.2.2 (h3 0 (by simp)) (h3 1 (by simp)) (by simp [bD]) hcl.free hh
   ·cases ht
  ·cases ht
 ·cases ht
theorem aEM (b:Builtin) (args:Array Operand) (ts:Array TypeId) (ty:TypeId) (consts:Array Bool):dA P F B np w0 ext σ0 G s w ((builtin b ts ty consts (args.map a.eval)).run P w) (nF P ft b args.toList ts.toList):=by
 intro ao xs ht hnc id hnp hcl v u hh
 unfold nF at ht
 split at ht
 ·rename_i x t ha hts
  have ha:args=#[x]:=by rw [← Array.toArray_toList (xs:=args),ha]
  have hts:ts=#[t]:=by rw [← Array.toArray_toList (xs:=ts),hts]
  subst ha hts
  have:=aIQ hft r x t ty ao xs ht hnc id hnp hcl v u hh
  rw [show #[a.eval x]=Array.map a.eval #[x] from by simp] at this
  simpa only [builtin,Sem.run_bind,Sem.run_pure] using this
 ·rename_i x y t u' ha hts
  have ha:args=#[x,y]:=by rw [← Array.toArray_toList (xs:=args),ha]
  have hts:ts=#[t,u']:=by rw [← Array.toArray_toList (xs:=ts),hts]
  subst ha hts
  have:=aFJ hft r x y t u' ty ao xs ht hnc id hnp hcl v u hh
  rw [show #[a.eval x,a.eval y]=Array.map a.eval #[x,y] from by simp] at this
  simpa only [builtin,Sem.run_bind,Sem.run_pure] using this
 ·rename_i _ x y ha
  have ha:args=#[x,y]:=by rw [← Array.toArray_toList (xs:=args),ha]
  subst ha
  rw [Option.map_eq_some_iff] at ht
  obtain ⟨l,hx,h⟩:=ht
  cases h
  obtain ⟨p,q,rfl,e1,e2⟩:=aDK hx
  have:=vH r.mem (a9 hft r e1) (a9 hft r e2) id (bD (.mnmx true)) true (at_:=ts) (ty:=ty) (P:=P) hh
  rw [show #[a.eval x,a.eval y]=Array.map a.eval #[x,y] from by simp] at this
  simpa only [builtin,Sem.run_bind,Sem.run_pure,if_true,Bool.false_eq_true,if_false] using this
 ·rename_i _ x y ha
  have ha:args=#[x,y]:=by rw [← Array.toArray_toList (xs:=args),ha]
  subst ha
  rw [Option.map_eq_some_iff] at ht
  obtain ⟨l,hx,h⟩:=ht
  cases h
  obtain ⟨p,q,rfl,e1,e2⟩:=aDK hx
  have:=vH r.mem (a9 hft r e1) (a9 hft r e2) id (bD (.mnmx false)) false (at_:=ts) (ty:=ty) (P:=P) hh
  rw [show #[a.eval x,a.eval y]=Array.map a.eval #[x,y] from by simp] at this
  simpa only [builtin,Sem.run_bind,Sem.run_pure,if_true,Bool.false_eq_true,if_false] using this
 ·cases ht
theorem aE8 (c:Call) (ty:TypeId):dA P F B np w0 ext σ0 G s w ((do let d ← resolve a.eval c ty; invoke d.target d.args:Sem Next).run P w) (qP P ft np c):=by
 intro ao xs ht hnc id hnp hcl v u hh
 obtain ⟨callee,args,ts⟩:=c
 unfold qP at ht
 split at ht
 ·split at ht
  ·cases ht
   cases hnc
  ·cases ht
 ·rw [Option.map_eq_some_iff] at ht
  obtain ⟨l,_,h⟩:=ht
  cases h
  cases hnc
 ·rename_i b hb
  simp only at hb
  subst hb
  simp only [resolve,invoke,Sem.run_bind,Sem.run_pure,Result.andThen_ok]
  exact aEM hft r b args ts ty _ ao xs ht hnc id hnp hcl v u hh
 ·cases ht
theorem yY (t:TypeId) (x y z:Operand):dA P F B np w0 ext σ0 G s w (((Instr.mapUpdate t (a.eval x) (a.eval y) (a.eval z)).run P w).andThen fun _ w=>.ok .skip w) (oP P ft t x y z):=by
 intro ao xs ht _ id hnp hcl v u hh
 unfold oP at ht
 split at ht
 ·rename_i p ax ay az hm h1 h2 h3
  cases ht
  obtain ⟨k,e,hu,hk,he⟩:=wB (g:=p.1) (z:=p.2) hm
  exact aAD r.mem (a9 hft r h1) (a9 hft r h2) (xB (a9 hft r h3) _) _ _ hu hk hh
 ·cases ht
end ops
theorem aF1 (hft:∀ f j,ag ft f=some j→F j=f) (r:Rel F B np w0 ext σ0 G s a w) (o:Oper):dA P F B np w0 ext σ0 G s w ((execOp a.eval o).run P w) (aDB P ft np o):=by
 cases hop:o.op <;> simp only [aDB,execOp,hop,Sem.run_bind,Sem.run_pure]
 case move x=>exact aF4 hft r _ x
 case assign x=>exact aF4 hft r _ x
 case alloc t=>exact aG2 hft r t
 case build t parts=>exact aHJ hft r t parts
 case buildSlice t len parts=>exact yH hft r t len parts
 case load t x=>exact aH1 hft r t x
 case store t x y=>exact aG5 hft r t x y
 case binOp op t x y ty=>simpa only [Sem.run_bind] using aIS hft r op t x y
 case convert src dst x=>exact aH9 hft r src dst x
 case makeFunc fn first caps =>
  simp only [Instr.makeFunc,Sem.run_pure,Result.andThen_ok]
  exact aCK hft r fn first caps
 case makeSlice t l c=>exact zY hft r t l c
 case slice t x lo hi mx=>exact aHG hft r t x lo hi mx
 case fieldAddr st x f=>exact zA hft r st x f
 case field st x f=>exact aGT hft r st x f
 case indexAddr t x i=>exact aA7 hft r t x i
 case index t x i=>exact aHI hft r t x i
 case call c=>simpa only [Sem.run_bind] using aE8 hft r c o.type
 case pick c x y =>
  intro ao xs ht _ id hnp hcl v u hh
  rw [Option.map_eq_some_iff] at ht
  obtain ⟨l,h1,h⟩:=ht
  cases h
  obtain ⟨p,q,t,rfl,e1,e2,e3⟩:=aIP h1
  exact aEP r.mem (a9 hft r e1) (a9 hft r e2) (a9 hft r e3) _ _ hh
 case box t x =>
  intro ao xs ht _ id hnp hcl v u hh
  rw [Option.map_eq_some_iff] at ht
  obtain ⟨ax,h1,h⟩:=ht
  cases h
  exact aFX r.mem (a9 hft r h1) (by simp [bD]) hcl.free (aFF hcl h1) t hh
 case nilCheck x =>
  intro ao xs ht _ id hnp hcl v u hh
  rw [Option.map_eq_some_iff] at ht
  obtain ⟨ax,h1,h⟩:=ht
  cases h
  obtain ⟨b,o',hx,hd⟩:=uX r.mem (a9 hft r h1) id _ hh
  rw [hx] at hd ⊢
  exact hd
 case unOp op t x =>
  intro ao xs ht _ id hnp hcl v u hh
  rw [Option.map_eq_some_iff] at ht
  obtain ⟨ax,h1,h⟩:=ht
  cases h
  exact aHO r.mem (a9 hft r h1) _ _ op hh
 case extract x i =>
  intro ao xs ht _ id hnp hcl v u hh
  rw [Option.map_eq_some_iff] at ht
  obtain ⟨ax,h1,h⟩:=ht
  cases h
  exact x6 r.mem (a9 hft r h1) _ _ i hh
 case makeMap t x =>
  intro ao xs ht _ id hnp hcl v u hh
  unfold vO at ht
  split at ht
  ·cases ht
   exact aBI r.mem (by simp [bD]) hcl.free t _ _ hh
  ·cases ht
 case mapUpdate t x y z=>exact yY hft r t x y z
 case insert t x y z=>exact yY hft r t x y z
 case lookup t x y c =>
  intro ao xs ht _ id hnp hcl v u hh
  unfold aAB at ht
  split at ht
  ·rename_i g z ax ay hm h1 h2
   cases ht
   obtain ⟨k,e,hu,hk,he⟩:=wB hm
   exact aAM r.mem (a9 hft r h1) (a9 hft r h2) hcl.free hu hk c (fun hg=>by subst hg; simp only [bD]; omega) he hh
  ·cases ht
 case range t x =>
  intro ao xs ht _ id hnp hcl v u hh
  unfold aCW at ht
  split at ht
  ·rename_i ax hu h1
   cases ht
   exact xN r.mem (a9 hft r h1) (by simp [bD]) hcl.free hu hh
  ·cases ht
 case next x isS =>
  intro ao xs ht _ id hnp hcl v u hh
  cases isS with
  | false=>cases ht
  | true =>
   simp only [cond_true,Option.map_eq_some_iff] at ht
   obtain ⟨ax,h1,h⟩:=ht
   cases h
   exact yC r.mem (a9 hft r h1) _ _ _ hh
 all_goals
  intro ao xs ht
  cases ht
theorem vB {t:Option (AOp×List AX)} {ao:AOp} {xs:List AX} (h:yG t=some (ao,xs)):t=some (ao,xs)∨(ao=.stuck∧xs=[]):=by
 unfold yG at h
 split at h
 ·exact .inl h
 ·cases h
  exact .inr ⟨rfl,rfl⟩
theorem tH {o:Oper} {ao:AOp} {xs:List AX} (h:aBY P ft np o=some (ao,xs)):(∃ c,o.op=.call c∧qP P ft np c=some (ao,xs))∨(aDB P ft np o=some (ao,xs)∧dG ao=false)∨(ao=.stuck∧xs=[]):=by
 unfold aBY at h
 split at h
 ·rename_i c hc
  rcases vB h with h | h
  ·exact .inl ⟨c,hc,h⟩
  ·exact .inr (.inr h)
 ·split at h
  ·rename_i p hp
   cases hi:dG p.1 with
   | true=>rw [hi] at h; cases h
   | false =>
    rw [hi] at h
    cases h
    exact .inr (.inl ⟨hp,hi⟩)
  ·cases h
   exact .inr (.inr ⟨rfl,rfl⟩)
theorem aHL (hft:∀ f j,ag ft f=some j→F j=f) (r:Rel F B np w0 ext σ0 G s a w) (o:Oper):dA P F B np w0 ext σ0 G s w ((execOp a.eval o).run P w) (aBY P ft np o):=by
 intro ao xs ht hnc
 rcases tH ht with ⟨c,hc,h⟩ | ⟨h,_⟩ | ⟨rfl,rfl⟩
 ·have h1:=aE8 hft r c o.type ao xs h hnc
  simp only [Sem.run_bind] at h1
  simpa only [execOp,hc,Sem.run_bind] using h1
 ·exact aF1 hft r o ao xs h hnc
 ·intro id hnp hcl v u hh
  exact (aD hh).elim
end
section
variable {P:Program} {ft:FT} {np:Nat} {hp:Nat→Option (Bool×List D)} {tk:Nat→Option (Nat×Nat)} {lo hi id:Nat}
theorem aU {l:List D}:names lo hi l=false↔∀ d∈l,d.names1 lo hi=false:=by
 induction l with
 | nil=>simp [names]
 | cons d l ih =>
  simp only [names,List.mem_cons,forall_eq_or_imp]
  cases d.names1 lo hi with
  | true=>simp
  | false=>simp [ih]
theorem a7 {lo hi j:Nat} (h:¬(lo≤j∧j < hi)):(Nat.ble lo j&&Nat.blt j hi)=false:=by
 cases hh:(Nat.ble lo j&&Nat.blt j hi) with
 | false=>rfl
 | true =>
  simp only [Bool.and_eq_true,Nat.ble_eq,Nat.blt_eq] at hh
  exact absurd hh h
theorem yF {l:List D} {i:Nat} {a d:D} (h:d∈upd l i a):d=a∨d∈l:=by
 induction l generalizing i with
 | nil=>simp [upd] at h
 | cons e l ih =>
  cases i with
  | zero =>
   simp only [upd,List.mem_cons] at h
   rcases h with h | h
   ·exact .inl h
   ·exact .inr (List.mem_cons_of_mem _ h)
  | succ i =>
   simp only [upd,List.mem_cons] at h
   rcases h with h | h
   ·exact .inr (by simp [h])
   ·rcases ih h with h | h
    ·exact .inl h
    ·exact .inr (List.mem_cons_of_mem _ h)
theorem k8 {ds:List D}:∀ {cs:List D} {o:Nat} {d:D},d∈dI cs o ds→d∈cs∨d∈ds:=by
 induction ds with
 | nil=>intro cs o d h; exact .inl h
 | cons a ds ih =>
  intro cs o d h
  simp only [dI] at h
  rcases ih h with h | h
  ·rcases yF h with h | h
   ·exact .inr (by simp [h])
   ·exact .inl h
  ·exact .inr (List.mem_cons_of_mem _ h)
theorem dS (d:D):d.pure1.names1 lo hi=false:=by cases d <;> rfl
theorem fM {l:List D} {d:D} (h:d∈aJ l):∃ e∈l,d=e.pure1:=by
 induction l with
 | nil=>simp [aJ] at h
 | cons a l ih =>
  simp only [aJ,List.mem_cons] at h
  rcases h with h | h
  ·exact ⟨a,by simp,h⟩
  ·obtain ⟨e,h1,h2⟩:=ih h
   exact ⟨e,List.mem_cons_of_mem _ h1,h2⟩
theorem aC5 {l:List D} {d:D} (h:d∈ros l):∃ e∈l,d=e.ro1:=by
 induction l with
 | nil=>simp [ros] at h
 | cons a l ih =>
  simp only [ros,List.mem_cons] at h
  rcases h with h | h
  ·exact ⟨a,by simp,h⟩
  ·obtain ⟨e,h1,h2⟩:=ih h
   exact ⟨e,List.mem_cons_of_mem _ h1,h2⟩
theorem aDR {d:D} (h:d.names1 lo hi=false):d.ro1.names1 lo hi=false:=by
 cases d with
 | slice t z n g=>cases t <;> rfl
 | _=>exact h
theorem dD (l:List D):names lo hi (aJ l)=false:=aU.2 fun d hd=>by
 obtain ⟨e,_,rfl⟩:=fM hd
 exact dS e
theorem aEG {l:List D} (h:names lo hi l=false):names lo hi (ros l)=false:=aU.2 fun d hd=>by
 obtain ⟨e,he,rfl⟩:=aC5 hd
 exact aDR (aU.1 h e he)
theorem aD4 {d:D} (h:d.names lo hi=false):d.names1 lo hi=false:=by
 cases d with
 | agg l=>rfl
 | tup l=>rfl
 | _=>exact h
theorem pF {l:List D} {j:Nat}:nth l j .dead∈l∨nth l j .dead=.dead:=by
 by_cases hj:j < l.length
 ·exact .inl (by rw [cP l _ hj]; exact List.getElem_mem hj)
 ·exact .inr (gO l _ (Nat.le_of_not_lt hj))
theorem aAP:∀ {qs:List (Nat×Nat)} {xs cells l:List D},fill cells qs xs=some l→∀ d∈l,d∈cells∨∃ x∈xs,d∈x.cells
 | [],[],cells,l,h,d,hd=>by cases h; exact .inl hd
 | [],_::_,_,_,h,_,_=>by simp [fill] at h
 | _::_,[],_,_,h,_,_=>by simp [fill] at h
 | (off,size)::qs,x::xs,cells,l,h,d,hd=>by
  simp only [fill] at h
  cases hb:(aG x.cells&&Nat.beq x.cells.length size&&Nat.ble (off+size) cells.length) with
  | false=>rw [hb] at h; cases h
  | true =>
   rw [hb] at h
   rcases aAP h d hd with h1 | ⟨y,h1,h2⟩
   ·rcases k8 h1 with h3 | h3
    ·exact .inl h3
    ·exact .inr ⟨x,by simp,h3⟩
   ·exact .inr ⟨y,List.mem_cons_of_mem _ h1,h2⟩
def Cell:D→Prop
 | .agg _=>False
 | .tup _=>False
 | _=>True
theorem Cell.names {d:D} (h:Cell d) (h1:d.names1 lo hi=false):d.names lo hi=false:=by
 cases d <;> first | exact h1 | exact h.elim
theorem dZ (d:D):Cell d.pure1:=by cases d <;> trivial
def zQ (lo hi:Nat):D→Prop
 | .agg l=>∀ e∈l,Cell e
 | .tup l=>∀ e∈l,match e with
  | .agg c=>names lo hi c=false
  | .tup _=>False
  | _=>True
 | _=>True
theorem iR {l:List D} (h:aG l=true):∀ e∈l,Cell e:=by
 induction l with
 | nil=>simp
 | cons d l ih =>
  intro e he
  simp only [List.mem_cons] at he
  rcases he with rfl | he
  ·cases e <;> first | trivial | simp [aG] at h
  ·refine ih ?_ e he
   cases d <;> first | exact h | simp [aG] at h
theorem bY {g:Bool} {n:Nat} {l:List D} {v:D} {u:Upd} (h:(bS g n l).holds v u) (h1:names lo hi l=false) (h2:∀ e∈l,Cell e):v.names lo hi=false∧u=Upd.none:=by
 unfold bS at h
 cases hb:Nat.ble n l.length with
 | false=>rw [hb] at h; exact (aD h).elim
 | true =>
  rw [hb] at h
  obtain ⟨rfl,rfl⟩:=aE h
  refine ⟨?_,rfl⟩
  have h3:names lo hi (l.take n)=false:=aU.2 fun d hd=>aU.1 h1 d (List.mem_of_mem_take hd)
  cases g with
  | true=>exact h3
  | false =>
   simp only [mkv,cond_false]
   rcases pF (l:=l.take n) (j:=0) with h4 | h4
   ·exact (h2 _ (List.mem_of_mem_take h4)).names (aU.1 h3 _ h4)
   ·rw [h4]; rfl
theorem kW {l:List D} (h:names lo hi l=false) (n:Nat):names lo hi (l.drop n)=false:=aU.2 fun d hd=>aU.1 h d (List.mem_of_mem_drop hd)
theorem qU:∀ (l:List D) (i:Nat),(∀ d∈l,(∃ t z n g,d=.slice t z n g)∨d.names1 lo hi=false)→(∀ d∈l,∀ j z n g,d=.slice (.own j) z n g→True)→(i+l.length≤lo∨hi≤i)→names lo hi (b7 l i)=false∧∀ x∈aS l i,¬(lo≤x.1∧x.1 < hi)
 | [],i,_,_,_=>⟨rfl,fun x hx=>by simp [aS] at hx⟩
 | d::l,i,h,h',hl=>by
  simp only [List.length_cons] at hl
  obtain ⟨e1,e2⟩:=qU l (i+1) (fun d hd=>h d (List.mem_cons_of_mem _ hd)) (fun _ _ _ _ _ _ _=>trivial) (by omega)
  have h0:=h d (by simp)
  have other:d.names1 lo hi=false→names lo hi (d::b7 l (i+1))=false:=fun hd=>aU.2 fun x hx=>by
   simp only [List.mem_cons] at hx
   rcases hx with rfl | hx
   ·exact hd
   ·exact aU.1 e1 x hx
  cases d with
  | slice t z n g =>
   cases t with
   | own j =>
    refine ⟨aU.2 fun x hx=>?_,fun x hx=>?_⟩
    ·simp only [b7,List.mem_cons] at hx
     rcases hx with rfl | hx
     ·exact a7 (by omega)
     ·exact aU.1 e1 x hx
    ·simp only [aS,List.mem_cons] at hx
     rcases hx with rfl | hx
     ·simp only; omega
     ·exact e2 x hx
   | ro=>exact ⟨other rfl,e2⟩
   | full=>exact ⟨other rfl,e2⟩
  | ptr j o=>exact ⟨other (by rcases h0 with ⟨_,_,_,_,h0⟩ | h0; cases h0; exact h0),e2⟩
  | int k n=>exact ⟨other rfl,e2⟩
  | bool k=>exact ⟨other rfl,e2⟩
  | str k=>exact ⟨other rfl,e2⟩
  | agg k=>exact ⟨other rfl,e2⟩
  | tup k=>exact ⟨other rfl,e2⟩
  | eptr k=>exact ⟨other rfl,e2⟩
  | nilp=>exact ⟨other rfl,e2⟩
  | ubool=>exact ⟨other rfl,e2⟩
  | fn k n=>exact ⟨other rfl,e2⟩
  | dead=>exact ⟨other rfl,e2⟩
  | mp va n ks vs=>exact ⟨other rfl,e2⟩
  | newp l=>exact ⟨other rfl,e2⟩
  | arr w z n g=>exact ⟨other rfl,e2⟩
  | mref j=>exact ⟨other (by rcases h0 with ⟨_,_,_,_,h0⟩ | h0; cases h0; exact h0),e2⟩
  | msl j z n=>exact ⟨other (by rcases h0 with ⟨_,_,_,_,h0⟩ | h0; cases h0; exact h0),e2⟩
  | rptr j z n i o=>exact ⟨other (by rcases h0 with ⟨_,_,_,_,h0⟩ | h0; cases h0; exact h0),e2⟩
theorem iU {d:D} (h:tD d=true):d.names1 lo hi=false:=by
 cases d with
 | slice t z n g=>cases t <;> first | rfl | cases h
 | _=>first | rfl | cases h
theorem qB:∀ {l:List D} {i:Nat} {d:D},d∈gT l i→(∃ q z n g,q < l.length∧d=.slice (.own (i+q)) z n g)∨∃ x,d=D.pure1 x
 | [],_,_,h=>by cases h
 | x::l,i,d,h=>by
  have rest:d∈gT l (i+1)→(∃ q z n g,q < (x::l).length∧d=.slice (.own (i+q)) z n g)∨∃ x,d=D.pure1 x:=fun h=>by
   rcases qB h with ⟨q,z,n,g,h1,h2⟩ | h
   ·exact .inl ⟨q+1,z,n,g,by simpa using h1,by rw [h2,show i+1+q=i+(q+1) from by omega]⟩
   ·exact .inr h
  cases x with
  | slice t z n g =>
   rcases List.mem_cons.1 h with rfl | h
   ·exact .inl ⟨0,z,n,g,by simp,rfl⟩
   ·exact rest h
  | _ =>
   rcases List.mem_cons.1 h with rfl | h
   ·exact .inr ⟨_,rfl⟩
   ·exact rest h
theorem qL:∀ {l:List D} {i:Nat} {y:Nat×Nat×Nat},y∈gN l i→i≤y.1∧y.1 < i+l.length
 | [],_,_,h=>by cases h
 | x::l,i,y,h=>by
  have rest:y∈gN l (i+1)→i≤y.1∧y.1 < i+(x::l).length:=fun h=>by
   have:=qL h
   rw [List.length_cons]
   omega
  cases x with
  | slice t z n g =>
   rcases List.mem_cons.1 h with rfl | h
   ·rw [List.length_cons]
    simp only
    omega
   ·exact rest h
  | _=>exact rest h
theorem pI:∀ {l:List D} {u:List (Nat×Nat×Nat)} {p:Prop},oN tk l=some (u,p)→∀ y∈u,∃ e,tk y.1=some e
 | [],u,p,h,y,hy=>by
  simp only [oN,Option.some.injEq,Prod.mk.injEq] at h
  rw [← h.1] at hy
  cases hy
 | d::l,u,p,h,y,hy=>by
  cases d with
  | slice t z n g =>
   cases t with
   | ro=>simp [oN] at h
   | full=>exact pI (l:=l) h y hy
   | own j =>
    simp only [oN] at h
    split at h
    ·rename_i z' n' p' hj hl
     cases hb:Nat.beq z' z with
     | false=>rw [hb] at h; cases h
     | true =>
      rw [hb] at h
      simp only [cond_true,Option.some.injEq,Prod.mk.injEq] at h
      rw [← h.1] at hy
      rw [List.mem_singleton.1 hy]
      exact ⟨_,hj⟩
    ·cases h
  | _=>exact pI (l:=l) h y hy
theorem kT:∀ (l:List D) (ds:List D) (u:List (Nat×Bool×List D)),freeze np hp l=some (ds,u)→(∀ i f cs,hp i=some (f,cs)→¬(lo≤i∧i < hi))→∀ x∈u,¬(lo≤x.1∧x.1 < hi)∧names lo hi x.2.2=false
 | [],ds,u,h,_,x,hx=>by simp only [freeze,Option.some.injEq,Prod.mk.injEq] at h; rw [← h.2] at hx; simp at hx
 | d::l,ds,u,h,hh,x,hx=>by
  have other:(match freeze np hp l with | some (ds,u)=>bif aG [d] then some (d.pure::ds,u) else none | none=>none)=some (ds,u)→¬(lo≤x.1∧x.1 < hi)∧names lo hi x.2.2=false:=by
   intro h
   cases hf:freeze np hp l with
   | none=>simp [hf] at h
   | some p =>
    obtain ⟨ds',u'⟩:=p
    simp only [hf] at h
    cases hs:aG [d] with
    | false=>rw [hs] at h; cases h
    | true =>
     rw [hs] at h
     cases h
     exact kT l _ _ hf hh x hx
  cases d with
  | ptr i off =>
   simp only [freeze] at h
   cases hi':hp i with
   | none=>simp [hi'] at h
   | some e =>
    obtain ⟨f,cs⟩:=e
    cases hf:freeze np hp l with
    | none=>simp [hi',hf] at h
    | some p =>
     obtain ⟨ds',u'⟩:=p
     simp only [hi',hf] at h
     cases hb:((f || aG cs)&&Nat.ble np i) with
     | false=>rw [hb] at h; cases h
     | true =>
      rw [hb] at h
      cases h
      simp only [List.mem_cons] at hx
      rcases hx with rfl | hx
      ·exact ⟨hh i _ _ hi',dD _⟩
      ·exact kT l _ _ hf hh x hx
  | fn f c=>simp [freeze] at h
  | _=>exact other h
theorem o6 {sz bytes:Nat} {t:Tag} {z n:Nat} {g:Nat→List D} {m:Nat} {k:Nat→List D} {v:D} {u:Upd} (h:(cU id sz bytes tk t z n g m k).holds v u) (hid:¬(lo≤id∧id < hi)) (ht:∀ i e,tk i=some e→¬(lo≤i∧i < hi)) :
  v.names lo hi=false∧(∀ x∈u.h,¬(lo≤x.1∧x.1 < hi)∧names lo hi x.2.2=false)∧∀ x∈u.t,¬(lo≤x.1∧x.1 < hi):=by
 unfold cU at h
 cases hb:Nat.beq z sz with
 | false=>rw [hb] at h; exact (aD h).elim
 | true =>
  rw [hb] at h
  simp only [Bool.not_true,cond_false] at h
  split at h
  ·rename_i i
   split at h
   ·rename_i z' n' hi'
    have h1:=ht i _ hi'
    cases hb2:Nat.beq z' sz with
    | false=>rw [hb2] at h; exact (aD h).elim
    | true =>
     rw [hb2] at h
     obtain ⟨_,rfl,rfl⟩:=aW h
     refine ⟨a7 h1,fun y hy=>by simp at hy,fun y hy=>?_⟩
     simp only [List.mem_singleton] at hy
     subst hy
     exact h1
   ·exact (aD h).elim
  ·obtain ⟨_,rfl,rfl⟩:=aW h
   refine ⟨a7 (by omega),fun y hy=>by simp at hy,fun y hy=>?_⟩
   simp only [List.mem_singleton] at hy
   subst hy
   simp only
   omega
  ·exact (aD h).elim
theorem qJ {op:BinOp} {x y v:D} {u:Upd} (h:(bin op x y).holds v u):v.names lo hi=false∧u=Upd.none:=by
 unfold bin at h
 split at h
 ·rename_i k a k' b
  cases hs:nB op with
  | true =>
   rw [hs] at h
   simp only [cond_true] at h
   unfold sG at h
   split at h
   ·obtain ⟨_,rfl,rfl⟩:=aM h; exact ⟨rfl,rfl⟩
   ·obtain ⟨_,rfl,rfl⟩:=aM h; exact ⟨rfl,rfl⟩
   ·exact (aD h).elim
  | false =>
   rw [hs] at h
   simp only [cond_false] at h
   cases hk:i9 k k' with
   | false=>rw [hk] at h; exact (aD h).elim
   | true =>
    rw [hk] at h
    simp only [cond_true] at h
    unfold yR at h
    split at h
    all_goals first
     | exact (aD h).elim
     | (obtain ⟨rfl,rfl⟩:=aE h; exact ⟨rfl,rfl⟩)
     | (obtain ⟨_,rfl,rfl⟩:=aM h; exact ⟨rfl,rfl⟩)
 ·unfold xU at h
  split at h
  all_goals first
   | exact (aD h).elim
   | (obtain ⟨rfl,rfl⟩:=aE h; exact ⟨rfl,rfl⟩)
   | (obtain ⟨_,rfl,rfl⟩:=aM h; exact ⟨rfl,rfl⟩)
 ·exact (aD h).elim
theorem bF {c:Bool} {o:Out} {v:D} {u:Upd} (h:(bif c then o else Out.bad).holds v u):c=true∧o.holds v u:=by
 cases c with
 | true=>exact ⟨rfl,h⟩
 | false=>exact (aD h).elim
theorem cO {c:Bool} {o:Out} {v:D} {u:Upd} (h:(bif !c then Out.bad else o).holds v u):c=true∧o.holds v u:=by
 cases c with
 | true=>exact ⟨rfl,h⟩
 | false=>exact (aD h).elim
theorem vT {o:AOp} {args:List D} {v:D} {u:Upd} (h:(aT o id hp tk args).holds v u) (ho:jE o=true) (ha:∀ d∈args,d.names lo hi=false∧zQ lo hi d)
  (hh:∀ i f cs,hp i=some (f,cs)→¬(lo≤i∧i < hi)∧names lo hi cs=false∧∀ e∈cs,Cell e) (ht:∀ i e,tk i=some e→¬(lo≤i∧i < hi)) (hid:id+bD o≤lo∨hi≤id) :
  v.names lo hi=false∧(∀ x∈u.h,¬(lo≤x.1∧x.1 < hi)∧names lo hi x.2.2=false)∧∀ x∈u.t,¬(lo≤x.1∧x.1 < hi):=by
 have none':(∀ x∈Upd.none.h,¬(lo≤x.1∧x.1 < hi)∧names lo hi x.2.2=false)∧∀ x∈Upd.none.t,¬(lo≤x.1∧x.1 < hi):=⟨fun x hx=>by simp [Upd.none] at hx,fun x hx=>by simp [Upd.none] at hx⟩
 have hidlt:¬(lo≤id∧id < hi):=by
  have:0 < bD o:=by
   unfold bD
   split <;> omega
  omega
 unfold aT at h
 split at h
 ·obtain ⟨rfl,rfl⟩:=aE h; exact ⟨(ha _ (by simp)).1,none'⟩
 ·rename_i c x y
  obtain ⟨rfl,rfl⟩:=aE h
  refine ⟨?_,none'⟩
  cases c
  ·exact (ha y (by simp)).1
  ·exact (ha x (by simp)).1
 ·rename_i cells
  cases hs:aG cells with
  | false=>rw [hs] at h; exact (aD h).elim
  | true =>
   rw [hs] at h
   obtain ⟨rfl,rfl⟩:=a6 h
   simp only [jE,List.all_eq_true] at ho
   have hr:=qU (lo:=lo) (hi:=hi) cells (id+1) (fun d hd=>by
    have:=ho d hd
    cases d with
    | slice t z n g=>exact .inl ⟨t,z,n,g,rfl⟩
    | _=>exact .inr (iU this)) (fun _ _ _ _ _ _ _=>trivial) (by simp only [bD] at hid; omega)
   refine ⟨a7 (by omega),fun x hx=>?_,hr.2⟩
   simp only [List.mem_singleton] at hx
   subst hx
   exact ⟨by simp only; omega,hr.1⟩
 ·rename_i x
  cases hs:aG x.cells with
  | false=>rw [hs] at h; exact (aD h).elim
  | true =>
   rw [hs] at h
   obtain ⟨rfl,rfl⟩:=a6 h
   refine ⟨a7 (by omega),fun y hy=>?_,fun y hy=>by simp at hy⟩
   simp only [List.mem_singleton] at hy
   subst hy
   exact ⟨by simp only; omega,lM (ha x (by simp)).1 hs⟩
 ·rename_i g n i off
  split at h
  ·rename_i f cs hi'
   obtain ⟨_,h2,h3⟩:=hh i _ _ hi'
   obtain ⟨h4,rfl⟩:=bY (bF h).2 (kW h2 off) (fun e he=>h3 e (List.mem_of_mem_drop he))
   exact ⟨h4,none'⟩
  ·exact (aD h).elim
 ·rename_i g n l
  obtain ⟨h4,rfl⟩:=bY (lo:=lo) (hi:=hi) h (dD l) (fun e he=>by
   obtain ⟨x,_,rfl⟩:=fM he
   exact dZ x)
  exact ⟨h4,none'⟩
 ·rename_i n i off x
  split at h
  ·rename_i cs hi'
   obtain ⟨h1,h2,h3⟩:=hh i _ _ hi'
   replace h:=(cO h).2
   cases hb:(aG x.cells&&Nat.beq x.cells.length n&&Nat.ble (off+n) cs.length) with
   | false=>rw [hb] at h; exact (aD h).elim
   | true =>
    rw [hb] at h
    obtain ⟨rfl,rfl⟩:=a6 h
    simp only [Bool.and_eq_true] at hb
    refine ⟨rfl,fun y hy=>?_,fun y hy=>by simp at hy⟩
    simp only [List.mem_singleton] at hy
    subst hy
    refine ⟨h1,aU.2 fun d hd=>?_⟩
    rcases k8 hd with hd | hd
    ·exact aU.1 h2 d hd
    ·exact aU.1 (lM (ha x (by simp)).1 hb.1.1) d hd
  ·exact (aD h).elim
 ·rename_i off i o
  obtain ⟨rfl,rfl⟩:=aE h
  exact ⟨(ha (.ptr i o) (by simp)).1,none'⟩
 ·obtain ⟨rfl,rfl⟩:=aE h
  exact ⟨rfl,none'⟩
 ·rename_i g off n l
  have h1:=ha (.agg l) (by simp)
  obtain ⟨h4,rfl⟩:=bY h (kW h1.1 off) (fun e he=>h1.2 e (List.mem_of_mem_drop he))
  exact ⟨h4,none'⟩
 ·rename_i sz t z n g k i
  cases hb:Nat.beq z sz with
  | false=>rw [hb] at h; exact (aD h).elim
  | true =>
   rw [hb] at h
   obtain ⟨_,rfl,rfl⟩:=aM h
   exact ⟨rfl,none'⟩
 ·rename_i sz len j off k i
  obtain ⟨_,rfl,rfl⟩:=aM h
  exact ⟨(ha (.ptr j off) (by simp)).1,none'⟩
 ·obtain ⟨_,rfl,rfl⟩:=aM h
  exact ⟨rfl,none'⟩
 ·obtain ⟨_,rfl,rfl⟩:=aM h
  exact ⟨rfl,none'⟩
 ·rename_i g sz len l k i
  have h1:=ha (.agg l) (by simp)
  cases hl:bS g sz (l.drop (i.toNat * sz)) with
  | ok v' u' =>
   rw [hl] at h
   obtain ⟨_,rfl,rfl⟩:=aM h
   have hl':(bS g sz (l.drop (i.toNat * sz))).holds v u:=.inl hl
   obtain ⟨h4,rfl⟩:=bY hl' (kW h1.1 _) (fun e he=>h1.2 e (List.mem_of_mem_drop he))
   exact ⟨h4,none'⟩
  | bad=>rw [hl] at h; exact (aD h).elim
  | ask p v' u'=>rw [hl] at h; exact (aD h).elim
  | chk p v' u'=>rw [hl] at h; exact (aD h).elim
  | alt p v' u' v2 u2=>rw [hl] at h; exact (aD h).elim
 ·rename_i zero parts
  cases hf:fill zero parts args with
  | none=>rw [hf] at h; exact (aD h).elim
  | some l =>
   rw [hf] at h
   obtain ⟨rfl,rfl⟩:=aE h
   simp only [jE,List.all_eq_true] at ho
   refine ⟨aEG (aU.2 fun d hd=>?_),none'⟩
   rcases aAP hf d hd with h1 | ⟨x,h1,h2⟩
   ·exact iU (ho d h1)
   ·cases x with
    | agg l'=>exact aU.1 (ha _ h1).1 d h2
    | _ =>
     simp only [D.cells,List.mem_singleton] at h2
     subst h2
     exact aD4 (ha _ h1).1
 ·rename_i sz len zero parts
  cases hf:fill (rep len zero) parts args with
  | none=>rw [hf] at h; exact (aD h).elim
  | some l =>
   rw [hf] at h
   simp only at h
   cases hb:(Nat.beq zero.length sz&&aG l) with
   | false=>rw [hb] at h; exact (aD h).elim
   | true =>
    rw [hb] at h
    obtain ⟨rfl,rfl⟩:=aE h
    exact ⟨rfl,none'⟩
 ·rename_i sz lo' hi' mx t z n g r
  cases hb:Nat.beq z sz with
  | false=>rw [hb] at h; exact (aD h).elim
  | true =>
   rw [hb] at h
   simp only [Bool.not_true,cond_false] at h
   split at h
   ·split at h
    ·split at h
     ·obtain ⟨_,rfl,rfl⟩:=aM h
      refine ⟨?_,none'⟩
      cases mx <;> rfl
     ·exact (aD h).elim
    ·exact (aD h).elim
   ·exact (aD h).elim
 ·split at h
  ·split at h
   ·obtain ⟨_,rfl,rfl⟩:=aM h
    exact ⟨rfl,none'⟩
   ·exact (aD h).elim
  ·exact (aD h).elim
 ·rename_i sz len np' i off
  split at h
  ·rename_i f cs hi'
   obtain ⟨h1,h2,h3⟩:=hh i _ _ hi'
   replace h:=(cO h).2
   cases hb:(Nat.ble (off+len * sz) cs.length&&Nat.ble np' i) with
   | false=>rw [hb] at h; exact (aD h).elim
   | true =>
    rw [hb] at h
    obtain ⟨rfl,rfl⟩:=a6 h
    refine ⟨rfl,fun y hy=>?_,fun y hy=>by simp at hy⟩
    simp only [List.mem_singleton] at hy
    subst hy
    exact ⟨h1,dD _⟩
  ·exact (aD h).elim
 ·rename_i sz len np' l
  cases hb:Nat.ble (len * sz) l.length with
  | false=>rw [hb] at h; exact (aD h).elim
  | true =>
   rw [hb] at h
   obtain ⟨rfl,rfl⟩:=aE h
   exact ⟨rfl,none'⟩
 ·obtain ⟨rfl,rfl⟩:=aE h
  exact ⟨rfl,none'⟩
 ·obtain ⟨rfl,rfl⟩:=aE h
  exact ⟨rfl,none'⟩
 ·rename_i sz bytes t z n g t' z' m g'
  cases hb:Nat.beq z' sz with
  | false=>rw [hb] at h; exact (aD h).elim
  | true =>
   rw [hb] at h
   exact o6 h hidlt ht
 ·rename_i sz bytes t z n g b
  cases hb:Nat.beq sz 1 with
  | false=>rw [hb] at h; exact (aD h).elim
  | true =>
   rw [hb] at h
   exact o6 h hidlt ht
 ·obtain ⟨h1,rfl⟩:=qJ (lo:=lo) (hi:=hi) h
  exact ⟨h1,none'⟩
 ·obtain ⟨rfl,rfl⟩:=aE h
  exact ⟨rfl,none'⟩
 ·split at h
  ·obtain ⟨rfl,rfl⟩:=aE h
   exact ⟨rfl,none'⟩
  ·exact (aD h).elim
 ·unfold un at h
  split at h
  ·obtain ⟨rfl,rfl⟩:=aE h
   exact ⟨rfl,none'⟩
  ·obtain ⟨rfl,rfl⟩:=aE h
   exact ⟨rfl,none'⟩
  ·exact (aD h).elim
 ·obtain ⟨rfl,rfl⟩:=aE h
  exact ⟨rfl,none'⟩
 ·obtain ⟨rfl,rfl⟩:=aE h
  exact ⟨rfl,none'⟩
 ·obtain ⟨_,rfl,rfl⟩:=aW h
  exact ⟨rfl,none'⟩
 ·obtain ⟨rfl,rfl⟩:=aE h
  exact ⟨rfl,none'⟩
 ·obtain ⟨rfl,rfl⟩:=aE h
  exact ⟨rfl,none'⟩
 ·rename_i f np'
  cases hf:freeze np' hp args with
  | none=>rw [hf] at h; exact (aD h).elim
  | some p =>
   obtain ⟨ds,us⟩:=p
   rw [hf] at h
   obtain ⟨rfl,rfl⟩:=a6 h
   exact ⟨rfl,kT args ds us hf (fun i f cs h=>(hh i f cs h).1),fun y hy=>by simp at hy⟩
 ·rename_i i l
  have h1:=ha (.tup l) (by simp)
  cases hb:Nat.blt i l.length with
  | false=>rw [hb] at h; exact (aD h).elim
  | true =>
   rw [hb] at h
   obtain ⟨rfl,rfl⟩:=aE h
   refine ⟨?_,none'⟩
   rcases pF (l:=l) (j:=i) with h2 | h2
   ·have h3:=aU.1 h1.1 _ h2
    have h4:=h1.2 _ h2
    generalize nth l i .dead=e at h3 h4
    cases e with
    | agg c=>exact h4
    | tup c=>exact h4.elim
    | _=>exact h3
   ·rw [h2]; rfl
 ·rename_i zero bytes k l k' c
  cases hs:aG zero with
  | false=>rw [hs] at h; exact (aD h).elim
  | true =>
   rw [hs] at h
   cases hrow:Nat.ble 1000000 id with
   | true =>
    rw [hrow] at h
    obtain ⟨_,rfl,rfl⟩:=aW h
    refine ⟨a7 (by omega),fun y hy=>?_,fun y hy=>by simp at hy⟩
    simp only [List.mem_singleton] at hy
    subst hy
    exact ⟨by simp only; omega,rfl⟩
   | false =>
    rw [hrow] at h
    obtain ⟨_,rfl,rfl⟩:=aW h
    refine ⟨a7 (by omega),fun y hy=>by simp at hy,fun y hy=>?_⟩
    simp only [List.mem_singleton] at hy
    subst hy
    simp only
    omega
 ·obtain ⟨rfl,rfl⟩:=aE h
  exact ⟨(ha _ (by simp)).1,none'⟩
 ·obtain ⟨rfl,rfl⟩:=aE h
  exact ⟨rfl,none'⟩
 ·obtain ⟨rfl,rfl⟩:=aE h
  exact ⟨rfl,none'⟩
 ·obtain ⟨rfl,rfl⟩:=a6 h
  refine ⟨a7 (by omega),fun y hy=>by simp at hy,fun y hy=>?_⟩
  simp only [List.mem_singleton] at hy
  subst hy
  simp only
  omega
 ·obtain ⟨rfl,rfl⟩:=a6 h
  refine ⟨a7 (by omega),fun y hy=>?_,fun y hy=>by simp at hy⟩
  simp only [List.mem_singleton] at hy
  subst hy
  exact ⟨by simp only; omega,rfl⟩
 ·rename_i i
  unfold oY at h
  split at h
  ·rename_i s p hi'
   obtain ⟨h1,_,_⟩:=hh i _ _ hi'
   rcases bW h with ⟨_,rfl,rfl⟩ | ⟨_,rfl,rfl⟩
   ·refine ⟨rfl,fun y hy=>?_,fun y hy=>by simp at hy⟩
    simp only [List.mem_singleton] at hy
    subst hy
    exact ⟨h1,rfl⟩
   ·exact ⟨rfl,none'⟩
  ·exact (aD h).elim
 ·rename_i va lin
  obtain ⟨rfl,rfl⟩:=a6 h
  refine ⟨a7 (by omega),fun y hy=>?_,fun y hy=>by simp at hy⟩
  simp only [List.mem_singleton] at hy
  subst hy
  exact ⟨by simp only; omega,by cases va <;> cases lin <;> rfl⟩
 ·unfold sC at h
  split at h
  ·obtain ⟨rfl,rfl⟩:=aE h
   exact ⟨rfl,none'⟩
  ·exact (aD h).elim
 ·rename_i i k x
  unfold tY at h
  split at h
  ·rename_i va n ks vs hi'
   obtain ⟨h1,_,_⟩:=hh i _ _ hi'
   obtain ⟨_,h⟩:=bF h
   obtain ⟨rfl,rfl⟩:=a6 h
   refine ⟨rfl,fun y hy=>?_,fun y hy=>by simp at hy⟩
   simp only [List.mem_singleton] at hy
   subst hy
   exact ⟨h1,rfl⟩
  ·rename_i k' n ks vs hi'
   obtain ⟨h1,_,_⟩:=hh i _ _ hi'
   obtain ⟨_,h⟩:=bF h
   split at h
   ·rename_i u0 p hput
    obtain ⟨_,rfl,rfl⟩:=aW h
    refine ⟨rfl,fun y hy=>?_,fun y hy=>?_⟩
    ·simp only [List.mem_singleton] at hy
     subst hy
     exact ⟨h1,rfl⟩
    ·obtain ⟨e,he⟩:=pI hput y hy
     exact ht _ e he
   ·exact (aD h).elim
  ·exact (aD h).elim
 ·rename_i comma va zero i k
  unfold t6 at h
  split at h
  ·rename_i va' n ks vs hi'
   obtain ⟨hva,h⟩:=bF h
   have hva:va'=va:=by cases va' <;> cases va <;> first | rfl | cases hva
   subst hva
   have hz:∀ ok l,(mA comma va' ok l).names lo hi=false:=fun ok l=>by
    have e:(mkv va' (aJ l)).names lo hi=false∧(mkv va' (aJ l)).names1 lo hi=false:=by
     cases va' with
     | true=>exact ⟨dD l,rfl⟩
     | false =>
      simp only [mkv,cond_false]
      rw [aX]
      exact ⟨(dZ _).names (dS _),dS _⟩
    cases comma with
    | false=>exact e.1
    | true =>
     simp only [mA,cond_true,D.names]
     refine aU.2 fun d hd=>?_
     simp only [List.mem_cons,List.not_mem_nil,or_false] at hd
     rcases hd with rfl | rfl
     ·exact e.2
     ·rfl
   rcases bW h with ⟨_,rfl,rfl⟩ | ⟨_,rfl,rfl⟩
   ·exact ⟨hz _ _,none'⟩
   ·exact ⟨hz _ _,none'⟩
  ·rename_i n ks vs hi'
   obtain ⟨h1,_,_⟩:=hh i _ _ hi'
   obtain ⟨hb,h⟩:=bF h
   simp only [Bool.and_eq_true,Bool.not_eq_true'] at hb
   obtain ⟨⟨⟨⟨hva,_⟩,_⟩,hlen⟩,_⟩:=hb
   have hlen:=Nat.eq_of_beq_eq_true hlen
   have hids:bD (.mapGet comma va zero)=1+zero.length:=by rw [hva]; rfl
   rw [hids] at hid
   have hm:∀ y∈[(i,false,[D.str k,.mp true n ks vs])],¬(lo≤y.1∧y.1 < hi)∧names lo hi y.2.2=false:=fun y hy=>by
    simp only [List.mem_singleton] at hy
    subst hy
    exact ⟨h1,rfl⟩
   rcases bW h with ⟨_,rfl,rfl⟩ | ⟨_,rfl,rfl⟩
   ·refine ⟨aU.2 fun d hd=>?_,hm,fun y hy=>?_⟩
    ·rcases qB hd with ⟨q,z,m,g,h2,rfl⟩ | ⟨x,rfl⟩
     ·exact a7 (by omega)
     ·exact dS x
    ·have:=qL hy
     omega
   ·refine ⟨aU.2 fun d hd=>?_,hm,fun y hy=>by simp at hy⟩
    simp only [jE,Bool.and_eq_true,List.all_eq_true] at ho
    exact iU (ho.1 d hd)
  ·exact (aD h).elim
 ·obtain ⟨rfl,rfl⟩:=aE h
  exact ⟨rfl,none'⟩
 ·obtain ⟨rfl,rfl⟩:=aE h
  exact ⟨rfl,none'⟩
 ·obtain ⟨rfl,rfl⟩:=aE h
  exact ⟨rfl,none'⟩
 ·rcases bW h with ⟨_,rfl,rfl⟩ | ⟨_,rfl,rfl⟩
  ·exact ⟨rfl,none'⟩
  ·exact ⟨rfl,none'⟩
 ·obtain ⟨rfl,rfl⟩:=aE h
  exact ⟨rfl,none'⟩
 ·rename_i sz j z n kd i
  obtain ⟨_,h⟩:=cO h
  obtain ⟨_,rfl,rfl⟩:=aM h
  exact ⟨(ha (.msl j z n) (by simp)).1,none'⟩
 ·rename_i off j z n i o
  obtain ⟨rfl,rfl⟩:=aE h
  exact ⟨(ha (.rptr j z n i o) (by simp)).1,none'⟩
 ·rename_i j z n i o
  obtain ⟨rfl,rfl⟩:=aE h
  exact ⟨(ha (.rptr j z n i o) (by simp)).1,none'⟩
 ·unfold pE at h
  split at h
  ·obtain ⟨_,h⟩:=bF h
   obtain ⟨_,h⟩:=kD h
   obtain ⟨e1,rfl⟩:=bY (lo:=lo) (hi:=hi) h (kW (dD _) _) (fun e he=>by
    obtain ⟨x,_,rfl⟩:=fM (List.mem_of_mem_drop he)
    exact dZ x)
   exact ⟨e1,none'⟩
  ·exact (aD h).elim
 ·rename_i m j z n i o x
  unfold mP at h
  split at h
  ·rename_i w z' n' g hi'
   obtain ⟨_,h⟩:=bF h
   obtain ⟨_,rfl,rfl⟩:=aW h
   refine ⟨rfl,fun y hy=>?_,fun y hy=>by simp at hy⟩
   simp only [List.mem_singleton] at hy
   subst hy
   exact ⟨(hh j _ _ hi').1,rfl⟩
  ·exact (aD h).elim
 ·rename_i sz bytes j z n t z' m k
  obtain ⟨_,h⟩:=cO h
  unfold qI at h
  split at h
  ·rename_i z1 n1 g hi'
   obtain ⟨_,h⟩:=bF h
   obtain ⟨_,rfl,rfl⟩:=aW h
   refine ⟨(ha (.msl j z n) (by simp)).1,fun y hy=>?_,fun y hy=>by simp at hy⟩
   simp only [List.mem_singleton] at hy
   subst hy
   exact ⟨(hh j _ _ hi').1,rfl⟩
  ·exact (aD h).elim
 ·exact (aD h).elim
end
section
variable {P:Program} {F:Nat→FuncId} {B np:Nat} {w0 w w':World} {ext:List Nat} {σ0:Og} {G G':Gh} {s:St} {a:Act} {ft:FT} {hp:Nat→Option (Bool×List D)} {tk:Nat→Option (Nat×Nat)} {lo hi:Nat}
theorem jY:∀ {l:List (Nat×Bool×List D)} {hp:Nat→Option (Bool×List D)} {j:Nat} {x:Bool×List D},dH hp l j=some x→hp j=some x∨(j,x)∈l
 | [],_,_,_,h=>.inl h
 | (i,e)::l,hp,j,x,h=>by
  simp only [dH] at h
  rcases jY h with h1 | h1
  ·rcases aN h1 with ⟨rfl,rfl⟩ | ⟨_,h2⟩
   ·exact .inr (by simp)
   ·exact .inl h2
  ·exact .inr (List.mem_cons_of_mem _ h1)
theorem r9:∀ {l:List (Nat×Nat×Nat)} {tk:Nat→Option (Nat×Nat)} {j:Nat} {x:Nat×Nat},bX tk l j=some x→tk j=some x∨(j,x)∈l
 | [],_,_,_,h=>.inl h
 | (i,e)::l,tk,j,x,h=>by
  simp only [bX] at h
  rcases r9 h with h1 | h1
  ·rcases aN h1 with ⟨rfl,rfl⟩ | ⟨_,h2⟩
   ·exact .inr (by simp)
   ·exact .inl h2
  ·exact .inr (List.mem_cons_of_mem _ h1)
theorem aBK (dst:Option Nat) (v:D) (fr:List D):(eM dst v fr).length=fr.length:=by
 cases dst <;> simp [eM,bU]
theorem aBT (dst:Option Nat) (v:D) (fr:List D) (j:Nat):nth (eM dst v fr) j .dead=v∨nth (eM dst v fr) j .dead=nth fr j .dead:=by
 cases dst with
 | none=>exact .inr rfl
 | some d =>
  simp only [eM,eT]
  split
  ·exact .inl rfl
  ·exact .inr rfl
theorem Clean.after (h:Clean lo hi s) {v:D} {u:Upd} (hv:v.names lo hi=false) (hh:∀ x∈u.h,¬(lo≤x.1∧x.1 < hi)∧names lo hi x.2.2=false) (ht:∀ x∈u.t,¬(lo≤x.1∧x.1 < hi)) (dst:Option Nat) :
  Clean lo hi ⟨eM dst v s.fr,dH s.hp u.h,bX s.tk u.t⟩:=by
 refine ⟨fun i hi'=>?_,fun i f cs hx=>?_,fun i e hx=>?_⟩
 ·simp only [aBK] at hi'
  simp only
  rcases aBT dst v s.fr i with e | e
  ·rw [e]; exact hv
  ·rw [e]; exact h.fr i hi'
 ·rcases jY hx with h1 | h1
  ·exact h.hp i f cs h1
  ·exact hh _ h1
 ·rcases r9 hx with h1 | h1
  ·exact h.tk i e h1
  ·exact ht _ h1
theorem Rp.cell {σ:Sg} {v:Value} {d:D} (h:Rp σ v d):Cell d:=by cases h <;> trivial
theorem Rc.cell {v:Value} {d:D} (h:Rc F G tk v d):Cell d:=by
 cases h with
 | pure h _=>exact h.cell
 | _=>trivial
theorem Rd.flat {v:Value} {d:D} (h:Rd F G tk v d):zQ lo hi d:=by
 cases h with
 | any h =>
  cases h with
  | cell h =>
   have:=h.cell
   cases d <;> first | trivial | exact this.elim
  | agg cs l h1 h2 =>
   intro e he
   obtain ⟨j,hj,rfl⟩:=List.mem_iff_getElem.1 he
   have:=(h2 j hj).cell
   rw [cP l _ hj] at this
   exact this
 | tup vs l h1 h2 =>
  intro e he
  obtain ⟨j,hj,rfl⟩:=List.mem_iff_getElem.1 he
  have:=h2 j hj
  rw [cP l _ hj] at this
  generalize l[j]=e at this
  generalize vs.getD j undef=v at this
  cases this with
  | cell h =>
   have:=h.cell
   cases e <;> first | trivial | exact this.elim
  | agg cs c h3 h4 =>
   refine aU.2 fun x hx=>?_
   obtain ⟨q,hq,rfl⟩:=List.mem_iff_getElem.1 hx
   have:=(h4 q hq).2
   rw [cP c _ hq] at this
   rw [this]
   exact dS _
 | mref id=>trivial
 | msl=>trivial
 | rptr=>trivial
theorem oC {d:D} (h:xK d=true):d.names lo hi=false∧zQ lo hi d:=by
 cases d with
 | agg l =>
  simp only [xK,List.all_eq_true] at h
  refine ⟨aU.2 fun e he=>iU (h e he),fun e he=>?_⟩
  have:=h e he
  cases e <;> first | trivial | cases this
 | tup l=>cases h
 | slice t z n g=>cases t <;> first | exact ⟨rfl,trivial⟩ | cases h
 | ptr j o=>cases h
 | mref j=>cases h
 | msl j z n=>cases h
 | rptr j z n i o=>cases h
 | _=>exact ⟨rfl,trivial⟩
theorem yO {fr:List D}:∀ {xs:List AX} {d:D},d∈evs fr xs→∃ x∈xs,d=x.ev fr
 | [],_,h=>by simp [evs] at h
 | x::xs,d,h=>by
  simp only [evs,List.mem_cons] at h
  rcases h with h | h
  ·exact ⟨x,by simp,h⟩
  ·obtain ⟨y,h1,h2⟩:=yO h
   exact ⟨y,List.mem_cons_of_mem _ h1,h2⟩
theorem aIB (r:Rel F B np w0 ext σ0 G s a w) (hcl:Clean lo hi s) {xs:List AX} (h:xs.all mG=true):∀ d∈evs s.fr xs,d.names lo hi=false∧zQ lo hi d:=by
 intro d hd
 obtain ⟨x,hx,rfl⟩:=yO hd
 have hx:=List.all_eq_true.1 h x hx
 cases x with
 | t i =>
  simp only [AX.ev]
  by_cases hi':i < s.fr.length
  ·exact ⟨hcl.fr i hi',(r.slots i hi').flat⟩
  ·rw [gO s.fr D.dead (Nat.le_of_not_lt hi')]
   exact ⟨rfl,trivial⟩
 | c d=>exact oC hx
theorem aHU (r:Rel F B np w0 ext σ0 G s a w) (hcl:Clean lo hi s):∀ i f cs,s.hp i=some (f,cs)→¬(lo≤i∧i < hi)∧names lo hi cs=false∧∀ e∈cs,Cell e:=by
 intro i f cs h
 refine ⟨(hcl.hp i f cs h).1,(hcl.hp i f cs h).2,fun e he=>?_⟩
 cases f with
 | false =>
  by_cases hna:bQ cs=false
  rotate_left
  ·obtain ⟨w,z,n,g,rfl⟩:=cV (by simpa using hna)
   simp only [List.mem_cons,List.not_mem_nil,or_false] at he
   rcases he with rfl | rfl <;> trivial
  obtain ⟨_,_,hh,_⟩:=r.mem.vars i cs h hna
  rcases hh.cell with hs | ⟨t,p,rfl⟩ | ⟨x,va,n,ks,vs,rfl⟩
  ·exact iR hs e he
  rotate_left
  ·simp only [List.mem_cons,List.not_mem_nil,or_false] at he
   rcases he with rfl | rfl
   ·by_cases hx:e=.dead
    ·rw [hx]
     trivial
    ·rcases (r.mem.lins i e va n ks vs h hx).1.2 with rfl | ⟨k,rfl⟩ <;> trivial
   ·trivial
  ·simp only [List.mem_cons,List.not_mem_nil,or_false] at he
   rcases he with rfl | rfl | rfl <;> trivial
 | true =>
  obtain ⟨j,hj,rfl⟩:=List.mem_iff_getElem.1 he
  obtain ⟨v,_,_,h3⟩:=r.mem.froz i cs h j hj
  rw [cP cs _ hj] at h3
  rw [h3]
  exact dZ _
theorem cK {o:Out} {k:D→Upd→Prop} (h:o.then k):∃ v u,o.holds v u∧k v u:=by
 cases o with
 | bad=>exact h.elim
 | ok v u=>exact ⟨v,u,.inl rfl,h⟩
 | ask p v u=>exact ⟨v,u,.inr (.inl ⟨p,h.1,rfl⟩),h.2⟩
 | chk b v u =>
  cases b with
  | true=>exact ⟨v,u,.inr (.inr (.inl rfl)),h⟩
  | false=>exact h.elim
 | alt b v u v' u' =>
  cases b with
  | true=>exact ⟨v,u,.inr (.inr (.inr (.inl ⟨v',u',rfl⟩))),h⟩
  | false=>exact ⟨v',u',.inr (.inr (.inr (.inr ⟨v,u,rfl⟩))),h⟩
theorem fQ {o:Out} {k:D→Upd→Prop} {v:D} {u:Upd} (h:o.holds v u) (hk:k v u):o.then k:=by
 rcases h with rfl | ⟨p,hp,rfl⟩ | rfl | ⟨_,_,rfl⟩ | ⟨_,_,rfl⟩
 ·exact hk
 ·exact ⟨hp,hk⟩
 ·exact hk
 ·exact hk
 ·exact hk
def St.next (s:St) (dst:Option Nat) (v:D) (u:Upd):St:=⟨eM dst v s.fr,dH s.hp u.h,bX s.tk u.t⟩
theorem aF3 (r:Rel F B np w0 ext σ0 G s a w) (hcl:Clean lo hi s) {ao:AOp} {xs:List AX} (hok:jE ao=true) (hax:xs.all mG=true) {id:Nat} (hid:id+bD ao≤lo∨hi≤id) {v:D} {u:Upd}
  (hh:(aT ao id s.hp s.tk (evs s.fr xs)).holds v u) (dst:Option Nat):Clean lo hi (s.next dst v u):=by
 obtain ⟨h1,h2,h3⟩:=vT hh hok (aIB r hcl hax) (aHU r hcl) hcl.tk hid
 exact hcl.after h1 h2 h3 dst
theorem aH6 (hft:∀ f j,ag ft f=some j→F j=f) (r:Rel F B np w0 ext σ0 G s a w) {o:Oper} {ao:AOp} {xs:List AX} (ht:aBY P ft np o=some (ao,xs)) (hnc:dG ao=false) {id:Nat} (hnp:np≤id) (hcl:Clean id (id+bD ao) s) {v:D} {u:Upd}
  (hh:(aT ao id s.hp s.tk (evs s.fr xs)).holds v u) (dst:Option Nat) :
  ∃ w' r' v' G',(execOp a.eval o).run P w=.ok r' w'∧(r'=.value v'∨r'=.skip∧v'=undef)∧Rel F B np w0 ext σ0 G' (s.next dst v u) (a.put dst v') w':=by
 obtain ⟨w',r',v',G',h1,h2,h3,h4,h5⟩:=aHL hft r o ao xs ht hnc id hnp hcl v u hh
 exact ⟨w',r',v',G',h1,h2,r.put hnp hcl h5 h3 h4 dst⟩
end
def G0 (σ:Og) (ext:List Nat):Gh:=⟨σ.σ,fun k=>ext.getD k 0,fun _=>undef,σ.η,fun _=>none⟩
def aIR (σ:Og) (w:World) (ext:List Nat) (k z n:Nat) (g:Nat→List D):Prop :=
 ∃ a c,σ.η k n=some (.slice a n c)∧n≤c∧(∀ m,m≠n→σ.η k m=none)∧(0 < c→a=some ⟨ext.getD k 0,0,none⟩∧(∀ q,σ (ext.getD k 0) q=none)∧∃ o,w.heap[ext.getD k 0]? = some o∧RowO σ.σ o z n c g)
structure CPre (F:Nat→FuncId) (σ:Og) (w:World) (ext:List Nat) (vals:Array Value) (ds:List D) (bs:List (List D)):Prop where
 stab:∀ b o v,σ b o=some v→v.oneCell'=true∧∃ c e fz,w.heap[b]? = some (.cells c e fz)∧c[o]? = some v
 size:vals.size=ds.length
 args:∀ j,j < ds.length→Rd F (G0 σ ext) (fun _=>none) (vals.getD j undef) (nth ds j .dead)
 clean:∀ j,j < ds.length→∀ h,(nth ds j .dead).names bs.length h=false
 len:ext.length=bs.length
 nodup:ext.Nodup
 blocks:∀ k,k < bs.length→(∃ z n g,bs.getD k []=[.dead,.arr false z n g]∧aIR σ w ext k z n g)∨aG (bs.getD k [])=true∧(∃ c e,w.heap[ext.getD k 0]? = some (.cells c e (0,0))∧c.size=(bs.getD k []).length ∧
  (∀ j,j < (bs.getD k []).length→Rp σ (c.getD j undef) (nth (bs.getD k []) j .dead)∧nth (bs.getD k []) j .dead=(nth (bs.getD k []) j .dead).pure1)∧∀ o,σ (ext.getD k 0) o=none)
def rL (σ:Sg) (w:World) (B:Nat) (v:Value):D→Prop
 | .agg c=>∃ cs,v=.agg cs∧cs.size=c.length∧∀ j,j < c.length→Rp σ (cs.getD j undef) (nth c j .dead).pure1
 | .slice (.own _) z n g=>Rp σ v (.slice .ro z n g)∧∃ a c,v=.slice a n c∧n≤c∧(n < c→∃ b cur e,a=some ⟨b,0,none⟩∧w.heap[b]? = some (.cells cur e (0,0))∧cur.size=c * z∧(∀ o,n * z≤o→σ b o=none)∧B≤b)
 | .newp l=>∃ b c e,v=.pointer (some ⟨b,0,none⟩)∧B≤b∧w.heap[b]? = some (.cells c e (0,0))∧c.size=l.length∧(∀ j,j < l.length→Rp σ (c.getD j undef) (nth l j .dead).pure1)∧∀ o,σ b o=none
 | .arr _ z n g=>∃ a c,v=.slice a n c∧n≤c∧(0 < c→∃ b,a=some ⟨b,0,none⟩∧B≤b∧(∀ o,σ b o=none)∧∃ o,w.heap[b]? = some o∧RowO σ o z n c g)
 | d=>Rp σ v d.pure1
def cZ (v:Value) (d:D) (b:Nat):Prop:=∃ i z n g c,d=.slice (.own i) z n g∧v=.slice (some ⟨b,0,none⟩) n c∧n < c
def eE (vs:Array Value):Value:=if h:vs.size=1 then vs[0] else .tuple vs
structure CPost (σ:Og) (w:World) (ext:List Nat) (w':World) (σ':Sg) (rs:List D) (bs':List (List D)) (vs:Array Value):Prop where
 stab:∀ b o v,σ' b o=some v→v.oneCell'=true∧∃ c e fz,w'.heap[b]? = some (.cells c e fz)∧c[o]? = some v
 le:SgLe σ.σ σ'
 old:∀ b o,b < w.heap.size→σ' b o=σ b o
 os:w'.os=w.os
 tape:w'.tape=w.tape
 output:w'.output=w.output
 base:w.heap.size≤w'.heap.size
 keep:∀ b,b < w.heap.size→b ∉ ext→w'.heap[b]? = w.heap[b]?
 rows:∀ k f z n g,k < bs'.length→k < ext.length→bs'.getD k []=[.dead,.arr f z n g]→∃ a c,σ.η k n=some (.slice a n c)∧∀ b,a=some ⟨b,0,none⟩→0 < c→∃ o,w'.heap[b]? = some o∧RowO σ' o z n c g
 blocks:∀ k,k < bs'.length→k < ext.length→aG (aJ (bs'.getD k []))=true→∃ c e,w'.heap[ext.getD k 0]? = some (.cells c e (0,0))∧c.size=(bs'.getD k []).length ∧
  ∀ j,j < (bs'.getD k []).length→Rp σ' (c.getD j undef) (nth (bs'.getD k []) j .dead).pure1
 size:vs.size=rs.length
 res:∀ j,j < rs.length→rL σ' w' w.heap.size (vs.getD j undef) (nth rs j .dead)
 own:∀ i j b,i < rs.length→j < rs.length→cZ (vs.getD i undef) (nth rs i .dead) b→cZ (vs.getD j undef) (nth rs j .dead) b→i=j
structure bE (P:Program) (F:Nat→FuncId) (f:FuncId) (C:aK):Prop where
 enter:∀ (args:Array Value) (w:World),(callFunc f args).run P w=.ok (.enter f args) w
 mono:∀ ds bs K K',(∀ rs bs',K rs bs'→K' rs bs')→C ds bs K→C ds bs K'
 feas:∀ ds bs K,C ds bs K→∃ rs bs',K rs bs'
 calls:∀ σ w ext vals ds bs K,CPre F σ w ext vals ds bs→C ds bs K→Calls P f vals w fun e w'=>∃ vs rs bs' σ',e=.returned (eE vs)∧K rs bs'∧CPost σ w ext w' σ' rs bs' vs
structure aHS (P:Program) (F:Nat→FuncId) (f:FuncId) (C:aK):Prop where
 mono:∀ ds bs K K',(∀ rs bs',K rs bs'→K' rs bs')→C ds bs K→C ds bs K'
 feas:∀ ds bs K,C ds bs K→∃ rs bs',K rs bs'
 calls:∀ σ w ext vals ds bs K,CPre F σ w ext vals ds bs→C ds bs K→∃ w' vs rs bs' σ',(callFunc f vals).run P w=.ok (.value (eE vs)) w'∧K rs bs'∧CPost σ w ext w' σ' rs bs' vs
def COk (P:Program) (F:Nat→FuncId) (f:FuncId) (C:aK):Prop:=bE P F f C∨aHS P F f C
theorem COk.mono {P:Program} {F:Nat→FuncId} {f:FuncId} {C:aK} (h:COk P F f C):∀ ds bs K K',(∀ rs bs',K rs bs'→K' rs bs')→C ds bs K→C ds bs K':=h.elim (·.mono) (·.mono)
theorem COk.feas {P:Program} {F:Nat→FuncId} {f:FuncId} {C:aK} (h:COk P F f C):∀ ds bs K,C ds bs K→∃ rs bs',K rs bs':=h.elim (·.feas) (·.feas)
def EnvOk (P:Program) (F:Nat→FuncId) (E:Env):Prop:=(∀ j q,F (j+1000 * q)=F j)∧∀ j C,ag E j=some C→COk P F (F j) C
theorem EnvOk.get {P:Program} {F:Nat→FuncId} {E:Env} (h:EnvOk P F E) {id f:Nat} {C:aK} (hc:agc E id f=some C):COk P F (F f) C:=by
 unfold agc at hc
 split at hc
 ·rename_i C' h1
  cases hc
  have:=h.2 _ _ h1
  rw [h.1] at this
  exact this
 ·exact h.2 _ _ hc
theorem aIE {E:Env} {id f:Nat} {C:aK} (hc:agc E id f=some C):∃ j,ag E j=some C:=by
 unfold agc at hc
 split at hc
 ·rename_i C' h1
  cases hc
  exact ⟨_,h1⟩
 ·exact ⟨_,hc⟩
section
variable {P:Program} {F:Nat→FuncId} {B np:Nat} {w0 w w':World} {ext:List Nat} {σ0:Og} {G G':Gh} {s:St} {a:Act} {hp:Nat→Option (Bool×List D)} {tk:Nat→Option (Nat×Nat)}
theorem eD:∀ {l:List (Nat×Nat×Nat)} {tk:Nat→Option (Nat×Nat)} {j:Nat},(∀ x∈l,x.1≠j)→bX tk l j=tk j
 | [],_,_,_=>rfl
 | (i,e)::l,tk,j,h=>by
  simp only [bX]
  rw [eD (fun x hx=>h x (List.mem_cons_of_mem _ hx))]
  have:Nat.beq j i=false:=by
   cases hh:Nat.beq j i with
   | false=>rfl
   | true=>exact absurd (Nat.eq_of_beq_eq_true hh).symm (h (i,e) (by simp))
  rw [this]
  rfl
theorem fV:∀ (l:List D) (i:Nat) (x:Nat×Nat×Nat),x∈aS l i→i≤x.1
 | [],_,_,h=>by simp [aS] at h
 | d::l,i,x,h=>by
  have other:x∈aS l (i+1)→i≤x.1:=fun h=>by have:=fV l (i+1) x h; omega
  cases d with
  | slice t z n g =>
   cases t with
   | own j =>
    simp only [aS,List.mem_cons] at h
    rcases h with rfl | h
    ·exact Nat.le_refl _
    ·exact other h
   | _=>exact other h
  | _=>exact other h
def i5 (l:List D) (i j:Nat):Option (Nat×Nat):=match nth l (j - i) .dead with
 | .slice (.own _) z n _=>if i≤j∧j < i+l.length then some (z,n) else none
 | _=>none
theorem fC:∀ (l:List D) (i:Nat) (tk:Nat→Option (Nat×Nat)) (j:Nat),bX tk (aS l i) j=match i5 l i j with
  | some e=>some e
  | none=>tk j
 | [],i,tk,j=>by simp [aS,bX,i5,nth]
 | d::l,i,tk,j=>by
  have hlt:j < i→bX tk (aS (d::l) i) j=tk j:=fun h=>eD fun x hx=>by have:=fV _ _ _ hx; omega
  rcases Nat.lt_trichotomy j i with h | h | h
  ·rw [hlt h]
   have:i5 (d::l) i j=none:=by
    unfold i5
    split
    ·rw [if_neg (by omega)]
    ·rfl
   rw [this]
  ·subst h
   have h0:∀ tk',bX tk' (aS l (j+1)) j=tk' j:=fun tk'=>eD fun x hx=>by have:=fV _ _ _ hx; omega
   cases d with
   | slice t z n g =>
    cases t with
    | own q =>
     simp only [aS,bX]
     rw [h0]
     simp [i5,nth]
    | ro=>simp only [aS]; rw [h0]; simp [i5,nth]
    | full=>simp only [aS]; rw [h0]; simp [i5,nth]
   | _=>simp only [aS]; rw [h0]; simp [i5,nth]
  ·have h1:i5 (d::l) i j=i5 l (i+1) j:=by
    unfold i5
    rw [show j - i=(j - (i+1))+1 from by omega]
    simp only [nth,List.length_cons]
    split
    ·congr 1
     simp only [eq_iff_iff]
     omega
    ·rfl
   rw [h1]
   cases d with
   | slice t z n g =>
    cases t with
    | own q =>
     simp only [aS,bX]
     rw [fC l (i+1)]
     have:Nat.beq j i=false:=by
      cases hh:Nat.beq j i with
      | false=>rfl
      | true=>have:=Nat.eq_of_beq_eq_true hh; omega
     rw [this]
     rfl
    | ro=>simp only [aS]; exact fC l (i+1) tk j
    | full=>simp only [aS]; exact fC l (i+1) tk j
   | _=>simp only [aS]; exact fC l (i+1) tk j
theorem cB (l:List D):(aZ l).length=l.length:=by
 induction l with
 | nil=>rfl
 | cons d l ih=>simp [aZ,ih]
theorem gD (l:List D) (j:Nat):nth (aZ l) j .dead=(nth l j .dead).res:=by
 induction l generalizing j with
 | nil=>rfl
 | cons d l ih=>cases j with
  | zero=>rfl
  | succ j=>exact ih j
theorem dX (l:List D) (i:Nat):(b7 l i).length=l.length:=by
 induction l generalizing i with
 | nil=>rfl
 | cons d l ih =>
  cases d with
  | slice t z n g=>cases t <;> simp [b7,ih]
  | _=>simp [b7,ih]
def D.own (i:Nat):D→D
 | .slice (.own _) z n g=>.slice (.own i) z n g
 | d=>d
theorem m8 (l:List D) (i j:Nat):nth (b7 l i) j .dead=(nth l j .dead).own (i+j):=by
 induction l generalizing i j with
 | nil=>rfl
 | cons d l ih =>
  cases j with
  | zero =>
   cases d with
   | slice t z n g=>cases t <;> rfl
   | _=>rfl
  | succ j =>
   have h1:=ih (i+1) j
   rw [show i+1+j=i+(j+1) from by omega] at h1
   cases d with
   | slice t z n g=>cases t <;> exact h1
   | _=>exact h1
theorem cH (w:Bool) (cs:List D):(∃ w' z n g,cs=[.dead,.arr w' z n g]∧fD w cs=[.dead,.arr w z n g])∨(bQ cs=false∧fD w cs=aJ cs):=by
 cases h:bQ cs with
 | true =>
  obtain ⟨w',z,n,g,rfl⟩:=cV h
  exact .inl ⟨w',z,n,g,rfl,rfl⟩
 | false =>
  refine .inr ⟨rfl,?_⟩
  unfold fD
  split
  ·cases h
  ·rfl
theorem oL {w:Bool} {cs:List D} (h:bQ cs=false):fD w cs=aJ cs:=by
 rcases cH w cs with ⟨_,_,_,_,rfl,_⟩ | ⟨_,h1⟩
 ·cases h
 ·exact h1
theorem rV:∀ (ids:List Nat) (bs:List (List D)) (hp0 hp:Nat→Option (Bool×List D)),cY ids=true→ids.length=bs.length→∀ j x,dH hp (aY hp0 ids bs) j=some x →
  (∃ k,k < ids.length∧ids.getD k 0=j∧x=(false,fD (flg hp0 j) (bs.getD k [])))∨(j ∉ ids∧hp j=some x)
 | [],[],hp0,hp,_,_,j,x,h=>.inr ⟨by simp,h⟩
 | [],_::_,_,_,_,h,_,_,_=>by simp at h
 | _::_,[],_,_,_,h,_,_,_=>by simp at h
 | id::ids,b::bs,hp0,hp,hd,hl,j,x,h=>by
  simp only [aY,dH] at h
  have hd2:ids.any (Nat.beq id)=false∧cY ids=true:=by
   simp only [cY] at hd
   cases hh:ids.any (Nat.beq id) with
   | true=>rw [hh] at hd; cases hd
   | false=>rw [hh] at hd; exact ⟨rfl,hd⟩
  rcases rV ids bs hp0 _ hd2.2 (by simpa using hl) j x h with ⟨k,h1,h2,h3⟩ | ⟨h1,h2⟩
  ·exact .inl ⟨k+1,by simpa using h1,by simpa using h2,by simpa using h3⟩
  ·rcases aN h2 with ⟨rfl,rfl⟩ | ⟨h3,h4⟩
   ·exact .inl ⟨0,by simp,by simp,by simp⟩
   ·exact .inr ⟨by simp [h1,h3],h4⟩
theorem dC:∀ {ids:List Nat} {bs:List (List D)},b9 hp ids=some bs→ids.length=bs.length∧∀ k,k < ids.length→∃ cs,hp (ids.getD k 0)=some (false,cs)∧bs.getD k []=fD false cs∧okB (fD false cs)=true
 | [],bs,h=>by cases h; exact ⟨rfl,fun k hk=>by simp at hk⟩
 | id::l,bs,h=>by
  simp only [b9] at h
  split at h
  ·rename_i cs r h1 h2
   cases hs:okB (fD false cs) with
   | false=>rw [hs] at h; cases h
   | true =>
    rw [hs] at h
    cases h
    obtain ⟨h3,h4⟩:=dC h2
    refine ⟨by simp [h3],fun k hk=>?_⟩
    cases k with
    | zero=>exact ⟨cs,by simpa using h1,by simp,hs⟩
    | succ k=>simpa using h4 k (by simpa using hk)
  ·cases h
theorem lO:∀ {l:List Nat},cY l=true→l.Nodup
 | [],_=>List.nodup_nil
 | a::l,h=>by
  simp only [cY] at h
  cases hh:l.any (Nat.beq a) with
  | true=>rw [hh] at h; cases h
  | false =>
   rw [hh] at h
   refine List.nodup_cons.2 ⟨fun hm=>?_,lO h⟩
   have:=List.any_eq_false.1 hh a hm
   rw [Nat.beq_refl] at this
   exact this rfl
theorem m5:∀ {bs bs':List (List D)},lW bs bs'=true→bs'.length=bs.length∧∀ k,k < bs.length→okB (fD false (bs'.getD k []))=true∧bQ (bs'.getD k [])=bQ (bs.getD k [])
 | [],[],_=>⟨rfl,fun k hk=>by simp at hk⟩
 | [],_::_,h=>by cases h
 | _::_,[],h=>by cases h
 | b::bs,c::bs',h=>by
  simp only [lW,Bool.and_eq_true] at h
  obtain ⟨h1,h2⟩:=m5 h.2
  refine ⟨by simp [h1],fun k hk=>?_⟩
  cases k with
  | zero =>
   refine ⟨by simpa using h.1.1,?_⟩
   have:=h.1.2
   simp only [List.getD_cons_zero]
   cases h3:bQ b <;> cases h4:bQ c <;> simp [h3,h4,x3] at this ⊢
  | succ k=>simpa using h2 k (by simpa using hk)
theorem aIF {σ':Sg} {B':Nat} {v:Value} {d:D} {i:Nat} (h:rL σ' w' B' v d) {G':Gh} {tk':Nat→Option (Nat×Nat)} (hσ:G'.σ=σ') (hown:∀ q z n g,d=.slice (.own q) z n g→tk' i=some (z,n)∧G'.ρ i=v):Rt F G' tk' v (d.res.own i):=by
 subst hσ
 cases d with
 | agg c =>
  obtain ⟨cs,rfl,h1,h2⟩:=h
  exact .agg cs (aJ c) (by rw [aI]; exact h1) fun j hj=>by
   rw [aI] at hj
   rw [aX]
   exact ⟨h2 j hj,(bH _).symm⟩
 | slice t z n g =>
  cases t with
  | own q =>
   obtain ⟨h1,h2⟩:=hown q z n g rfl
   refine .cell (.pure ?_ ?_)
   ·cases h.1 with
    | slice a _ c _ _ _ b o val e1 e2 e3 e4 e5=>exact .slice a n c _ z g b o val e1 e2 e3 e4 e5
   ·intro z' m' hz
    rw [h1] at hz
    cases hz
    exact ⟨Nat.le_refl _,fun _=>h2.symm⟩
  | ro=>exact .cell (.pure h trivial)
  | full=>exact .cell (.pure h trivial)
 | newp l=>exact .cell (.pure (.dead _) trivial)
 | arr w z n g=>exact .cell (.pure (.dead _) trivial)
 | _=>exact .cell (.pure h trivial)
def fE (G:Gh) (hp:Nat→Option (Bool×List D)) (hs id k:Nat):Nat :=
 match hp id with
 | some (_,[.dead,.arr _ _ n _])=>match G.η id n with
  | some (.slice (some a) _ (_+1))=>a.block
  | _=>hs+k
 | _=>G.β id
def eY (G:Gh) (hp:Nat→Option (Bool×List D)) (hs:Nat):List Nat→Nat→List Nat
 | [],_=>[]
 | id::l,k=>fE G hp hs id k::eY G hp hs l (k+1)
theorem jZ:∀ (l:List Nat) (hs k:Nat),(eY G hp hs l k).length=l.length
 | [],_,_=>rfl
 | id::l,hs,k=>by simp [eY,jZ l]
theorem nA:∀ (l:List Nat) (hs k j:Nat),j < l.length→(eY G hp hs l k).getD j 0=fE G hp hs (l.getD j 0) (k+j)
 | [],_,_,_,h=>by simp at h
 | id::l,hs,k,0,_=>rfl
 | id::l,hs,k,j+1,h=>by
  have:=nA l hs (k+1) j (by simpa using h)
  simp only [eY,List.getD_cons_succ]
  rw [this,show k+1+j=k+(j+1) from by omega]
def sK (G:Gh) (hp:Nat→Option (Bool×List D)) (ids:List Nat):Nat→Nat→Option Value:=fun k m =>
 if k < ids.length then (match hp (ids.getD k 0) with
  | some (_,[.dead,.arr _ _ n _])=>if m=n then G.η (ids.getD k 0) n else none
  | _=>none) else none
def jB (G:Gh) (hp:Nat→Option (Bool×List D)) (ids:List Nat):Og:=⟨G.σ,sK G hp ids⟩
theorem j6 {hs id k:Nat} {f:Bool} {cs:List D} (h:hp id=some (f,cs)) (ha:bQ cs=false):fE G hp hs id k=G.β id:=by
 unfold fE
 rw [h]
 split
 ·rename_i h1
  cases h1
  cases ha
 ·rfl
theorem qS {hs id k:Nat} {f fw:Bool} {z n:Nat} {g:Nat→List D} {b c:Nat} (h:hp id=some (f,[.dead,.arr fw z n g])) (hη:G.η id n=some (.slice (some ⟨b,0,none⟩) n c)) (hc:0 < c):fE G hp hs id k=b:=by
 unfold fE
 rw [h]
 simp only [hη]
 cases c with
 | zero=>omega
 | succ c=>rfl
theorem aCD {hs id k:Nat} {f fw:Bool} {z n:Nat} {g:Nat→List D} {a:Option Addr} (h:hp id=some (f,[.dead,.arr fw z n g])) (hη:G.η id n=some (.slice a n 0)):fE G hp hs id k=hs+k:=by
 unfold fE
 rw [h]
 simp only [hη]
theorem mX {ids:List Nat} {k:Nat} {f fw:Bool} {z n:Nat} {g:Nat→List D} (hk:k < ids.length) (h:hp (ids.getD k 0)=some (f,[.dead,.arr fw z n g])) (m:Nat):sK G hp ids k m=if m=n then G.η (ids.getD k 0) n else none:=by
 unfold sK
 rw [if_pos hk,h]
theorem xJ (m:Mem F B np w0 ext σ0 G hp tk w) {ids:List Nat} {bs:List (List D)} (hb:b9 hp ids=some bs) {k:Nat} (hk:k < ids.length) :
  bO G hp tk (fE G hp w.heap.size (ids.getD k 0) k) (.inl (ids.getD k 0))∨fE G hp w.heap.size (ids.getD k 0) k=w.heap.size+k:=by
 obtain ⟨_,hbs⟩:=dC hb
 obtain ⟨cs,h1,h2,h3⟩:=hbs k hk
 cases ha:bQ cs with
 | false =>
  rw [j6 h1 ha]
  exact .inl ⟨cs,h1,.inl ⟨ha,rfl⟩⟩
 | true =>
  obtain ⟨fw,z,n,g,rfl⟩:=cV ha
  obtain ⟨a,c,hd,_⟩:=m.rows _ fw z n g h1
  by_cases hc:0 < c
  ·obtain ⟨b,rfl⟩:=hd.blk hc
   rw [qS h1 hd.at_ hc]
   exact .inl ⟨_,h1,.inr ⟨fw,z,n,g,c,rfl,hd.at_,hc⟩⟩
  ·have:c=0:=by omega
   subst this
   exact .inr (aCD h1 hd.at_)
theorem tJ (r:Rel F B np w0 ext σ0 G s a w) {id:Nat} (hnp:np≤id) (hcl:Clean id (id+4) s) {ids:List Nat} {bs bs':List (List D)} (hb:b9 s.hp ids=some bs) (hd:cY ids=true) {σ':Sg} {rs:List D} {vs:Array Value}
  (post:CPost (jB G s.hp ids) w (eY G s.hp w.heap.size ids 0) w' σ' rs bs' vs) (hback:lW bs bs'=true) (h4:rs.length≤4) :
  ∃ G',G'.σ=σ'∧G'.γ=G.γ∧Keeps id (id+4) G G' s.tk (bX s.tk (aS (aZ rs) id))∧Mem F B np w0 ext σ0 G' (dH s.hp (aY s.hp ids bs')) (bX s.tk (aS (aZ rs) id)) w' ∧
   (∀ b k,bO G' (dH s.hp (aY s.hp ids bs')) (bX s.tk (aS (aZ rs) id)) b k→b < w.heap.size∨∃ j q z n g,j < rs.length∧nth rs j .dead=.slice (.own q) z n g) ∧
   ∀ j,j < rs.length→Rt F G' (bX s.tk (aS (aZ rs) id)) (vs.getD j undef) (nth (b7 (aZ rs) id) j .dead):=by
 have m:=r.mem
 obtain ⟨hl,hbs⟩:=dC hb
 obtain ⟨hlen,hbk⟩:=m5 hback
 have hxl:(eY G s.hp w.heap.size ids 0).length=ids.length:=jZ _ _ _
 have hext:∀ k,k < ids.length→(eY G s.hp w.heap.size ids 0).getD k 0=fE G s.hp w.heap.size (ids.getD k 0) k:=by
  intro k hk
  rw [nA _ _ _ _ hk,Nat.zero_add]
 have hmem:∀ b,b∈eY G s.hp w.heap.size ids 0→∃ k,k < ids.length∧b=fE G s.hp w.heap.size (ids.getD k 0) k:=by
  intro b hb
  obtain ⟨k,hk,rfl⟩:=List.mem_iff_getElem.1 hb
  rw [hxl] at hk
  exact ⟨k,hk,by rw [← hext k hk]; simp [hxl,hk]⟩
 have hlt:∀ k,k < ids.length→bO G s.hp s.tk (fE G s.hp w.heap.size (ids.getD k 0) k) (.inl (ids.getD k 0))∨fE G s.hp w.heap.size (ids.getD k 0) k=w.heap.size+k:=fun k hk=>xJ m hb hk
 have hrow:∀ k f z n g,k < ids.length→bs'.getD k []=[.dead,.arr f z n g]→∃ fw z0 g0 a c,s.hp (ids.getD k 0)=some (false,[.dead,.arr fw z0 n g0])∧aHW np σ0.η G.η (ids.getD k 0) fw n a c ∧
   (∀ b,a=some ⟨b,0,none⟩→0 < c→fE G s.hp w.heap.size (ids.getD k 0) k=b∧b < w.heap.size∧(∀ q,G.σ b q=none)∧∃ o,w'.heap[b]? = some o∧RowO σ' o z n c g):=by
  intro k f z n g hk hbk'
  obtain ⟨cs0,h5,h6,_⟩:=hbs k hk
  have ha:bQ cs0=true:=by
   have h1:=(hbk k (by omega)).2
   rw [hbk'] at h1
   rcases cH false cs0 with ⟨_,_,_,_,rfl,_⟩ | ⟨h7,h8⟩
   ·rfl
   ·rw [h6,h8] at h1
    have h9:bQ (aJ cs0)=false:=by
     cases hh:bQ (aJ cs0) with
     | false=>rfl
     | true =>
      obtain ⟨w1,z1,n1,g1,e1⟩:=cV hh
      have e2:=aX cs0 1
      rw [e1] at e2
      generalize nth cs0 1 D.dead=d at e2
      cases d <;> simp [nth,D.pure1] at e2
    rw [h9] at h1
    cases h1
  obtain ⟨fw,z0,n0,g0,rfl⟩:=cV ha
  obtain ⟨a,c,h7,h8⟩:=m.rows _ fw z0 n0 g0 h5
  obtain ⟨a',c',h9,h10⟩:=post.rows k f z n g (by omega) (by omega) hbk'
  have h11:sK G s.hp ids k n=some (.slice a' n c'):=h9
  rw [mX hk h5] at h11
  by_cases hn:n=n0
  ·subst hn
   rw [if_pos rfl,h7.at_] at h11
   cases h11
   refine ⟨fw,z0,g0,a,c,h5,h7,fun b hab hc=>?_⟩
   subst hab
   have h12:=qS (hs:=w.heap.size) (k:=k) h5 h7.at_ hc
   obtain ⟨h13,o,h14,_⟩:=h8 b rfl hc
   obtain ⟨o',h15,h16⟩:=h10 b rfl hc
   exact ⟨h12,(Array.getElem?_eq_some_iff.1 h14).1,h13,o',h15,h16⟩
  ·rw [if_neg hn] at h11
   cases h11
 have hflat:∀ k,k < ids.length→bQ (bs'.getD k [])=false→∃ cs0,s.hp (ids.getD k 0)=some (false,cs0)∧bQ cs0=false:=by
  intro k hk h1
  obtain ⟨cs0,h5,h6,_⟩:=hbs k hk
  refine ⟨cs0,h5,?_⟩
  have h2:=(hbk k (by omega)).2
  rw [h1,h6] at h2
  rcases cH false cs0 with ⟨_,_,_,_,rfl,h8⟩ | ⟨h7,h8⟩
  ·rw [h8] at h2
   cases h2
  ·exact h7
 let G':Gh:=⟨σ',G.β,fun i=>if id≤i∧i < id+rs.length then vs.getD (i - id) undef else G.ρ i,G.η,G.γ⟩
 have htk:∀ j z n,bX s.tk (aS (aZ rs) id) j=some (z,n)→(id≤j∧j < id+rs.length∧∃ q g,nth rs (j - id) .dead=.slice (.own q) z n g)∨(s.tk j=some (z,n)∧¬(id≤j∧j < id+4)):=by
  intro j z n h
  rw [fC] at h
  split at h
  ·rename_i e he
   cases h
   unfold i5 at he
   split at he
   ·rename_i q z' n' g hq
    split at he
    ·rename_i hr
     cases he
     rw [cB] at hr
     rw [gD] at hq
     refine .inl ⟨hr.1,hr.2,q,g,?_⟩
     generalize nth rs (j - id) .dead=d at hq
     cases d with
     | slice t z' n' g'=>cases t <;> simp_all [D.res,D.pure1]
     | _=>simp [D.res,D.pure1] at hq
    ·cases he
   ·cases he
  ·exact .inr ⟨h,hcl.tk _ _ h⟩
 have keeps:Keeps id (id+4) G G' s.tk (bX s.tk (aS (aZ rs) id)):=by
  refine ⟨post.le,fun _ _=>rfl,fun i z n hi h=>?_,fun _ _ _ _ h=>h⟩
  rcases htk i z n h with ⟨h1,h2,_⟩ | ⟨h1,_⟩
  ·exact absurd ⟨h1,by omega⟩ hi
  ·exact ⟨z,n,h1,Nat.le_refl _,fun _=>by show (if id≤i∧i < id+rs.length then _ else G.ρ i)=G.ρ i; rw [if_neg (by omega)]⟩
 have keepB:∀ b,b < w.heap.size→(∀ k,k < ids.length→b≠fE G s.hp w.heap.size (ids.getD k 0) k)→w'.heap[b]? = w.heap[b]?:=fun b h1 h2=>post.keep b h1 fun h=>by
  obtain ⟨k,hk,h3⟩:=hmem b h
  exact h2 k hk h3
 have keepO:∀ b k0,bO G s.hp s.tk b k0→(∀ k,k < ids.length→k0≠.inl (ids.getD k 0))→w'.heap[b]? = w.heap[b]?:=fun b k0 h1 h2=>keepB b (m.own_lt h1) fun k hk hh=>by
  rcases hlt k hk with h3 | h3
  ·rw [← hh] at h3
   exact h2 k hk (m.own1 _ _ _ h1 h3)
  ·have:=m.own_lt h1
   omega
 have resAt:∀ j q z n g,id≤j→j < id+rs.length→nth rs (j - id) .dead=.slice (.own q) z n g→∃ a' c,G'.ρ j=.slice a' n c∧n≤c∧(n < c→∃ b cur e,a'=some ⟨b,0,none⟩∧w'.heap[b]? = some (.cells cur e (0,0))∧cur.size=c * z∧(∀ o,n * z≤o→σ' b o=none)∧w.heap.size≤b):=by
  intro j q z n g h1 h2 h3
  have:=post.res (j - id) (by omega)
  rw [h3] at this
  obtain ⟨_,a',c,h5,h6,h7⟩:=this
  refine ⟨a',c,?_,h6,h7⟩
  show (if id≤j∧j < id+rs.length then _ else _)=_
  rw [if_pos ⟨h1,h2⟩,h5]
 have hz:=rV ids bs' s.hp s.hp hd (by omega)
 have hpos:∀ k,k < ids.length→ids.getD k 0∈ids:=fun k hk=>by rw [List.getD_eq_getElem?_getD]; simp [hk]
 have hown:∀ b k,bO G' (dH s.hp (aY s.hp ids bs')) (bX s.tk (aS (aZ rs) id)) b k→bO G s.hp s.tk b k∨(w.heap.size≤b∧∃ j,k=.inr j∧id≤j∧j < id+rs.length∧cZ (vs.getD (j - id) undef) (nth rs (j - id) .dead) b):=by
  intro b k hk
  cases k with
  | inl j =>
   obtain ⟨cs,h1,h2⟩:=hk
   have h2:Blk G j cs b:=h2
   rcases hz j _ h1 with ⟨k,hk,rfl,h3⟩ | ⟨_,h3⟩
   ·simp only [Prod.mk.injEq,true_and] at h3
    rcases cH (flg s.hp (ids.getD k 0)) (bs'.getD k []) with ⟨f,z,n,g,e1,e2⟩ | ⟨e1,e2⟩
    ·rw [e2] at h3
     subst h3
     obtain ⟨fw,z0,g0,a',c,h5,h6,_⟩:=hrow k f z n g hk e1
     rcases h2 with ⟨h7,_⟩ | ⟨_,_,_,_,c',h7,h8,h9⟩
     ·cases h7
     ·cases h7
      exact .inl ⟨_,h5,.inr ⟨_,_,_,_,c',rfl,h8,h9⟩⟩
    ·obtain ⟨cs0,h5,h6⟩:=hflat k hk e1
     refine .inl ⟨cs0,h5,.inl ⟨h6,h2.flat ?_⟩⟩
     rw [h3,e2]
     cases hh:bQ (aJ (bs'.getD k [])) with
     | false=>rfl
     | true =>
      obtain ⟨w1,z1,n1,g1,e3⟩:=cV hh
      have e4:=aX (bs'.getD k []) 1
      rw [e3] at e4
      generalize nth (bs'.getD k []) 1 D.dead=d at e4
      cases d <;> simp [nth,D.pure1] at e4
   ·exact .inl ⟨cs,h3,h2⟩
  | inr j =>
   obtain ⟨z,n,c,h1,h2,h3⟩:=hk
   rcases htk j z n h1 with ⟨h5,h6,q,g,h7⟩ | ⟨h5,h6⟩
   ·obtain ⟨a',c',h8,h9,h10⟩:=resAt j q z n g h5 h6 h7
    rw [h2] at h8
    cases h8
    obtain ⟨b',cur,e,h11,_,_,_,h12⟩:=h10 h3
    cases h11
    refine .inr ⟨h12,j,rfl,h5,h6,q,z,n,g,c,h7,?_,h3⟩
    have:G'.ρ j=vs.getD (j - id) undef:=by
     show (if id≤j∧j < id+rs.length then _ else _)=_
     rw [if_pos ⟨h5,h6⟩]
    rw [← this]
    exact h2
   ·refine .inl ⟨z,n,c,h5,?_,h3⟩
    rw [← h2]
    show G.ρ j=(if id≤j∧j < id+rs.length then _ else G.ρ j)
    rw [if_neg (by omega)]
 have mem:Mem F B np w0 ext σ0 G' (dH s.hp (aY s.hp ids bs')) (bX s.tk (aS (aZ rs) id)) w':=by
  refine ⟨post.stab,fun b o hB=>?_,post.os.trans m.os,post.tape.trans m.tape,post.output.trans m.output,Nat.le_trans m.base post.base,fun b hB he=>?_,fun j cs h hna=>?_,fun j fw z n g h=>?_,fun j cs h=>?_,fun j z n h=>?_,fun b k k' h h'=>?_,fun b k h=>?_,fun b r hr=>?_,fun j x va n ks vs h hx=>?_⟩
  ·rw [← m.old b o hB]
   exact post.old b o (Nat.lt_of_lt_of_le hB m.base)
  ·rw [← m.keep b hB he]
   refine keepB b (Nat.lt_of_lt_of_le hB m.base) fun k hk hbk=>?_
   have:=m.base
   rcases hlt k hk with h | h
   ·rcases m.own2 _ _ h with h | ⟨h,_⟩
    ·omega
    ·rw [← hbk] at h
     exact he h
   ·omega
  ·rcases hz j _ h with ⟨k,hk,rfl,h3⟩ | ⟨h2,h3⟩
   ·simp only [Prod.mk.injEq,true_and] at h3
    subst h3
    rcases cH (flg s.hp (ids.getD k 0)) (bs'.getD k []) with ⟨f,z,n,g,e1,e2⟩ | ⟨e1,e2⟩
    ·rw [e2] at hna
     cases hna
    ·rw [e2]
     obtain ⟨cs0,h5,h50⟩:=hflat k hk e1
     obtain ⟨_,_,_,h6⟩:=m.vars _ cs0 h5 h50
     have ow:bO G s.hp s.tk (G.β (ids.getD k 0)) (.inl (ids.getD k 0)):=⟨cs0,h5,.inl ⟨h50,rfl⟩⟩
     have hsol:aG (aJ (bs'.getD k []))=true:=by
      have:=(hbk k (by omega)).1
      rw [oL e1] at this
      unfold okB at this
      rw [e2] at hna
      rw [hna,Bool.or_false] at this
      exact this
     obtain ⟨c,e,h7,h8,h9⟩:=post.blocks k (by omega) (by omega) hsol
     rw [hext k hk,j6 h5 h50] at h7
     refine ⟨_,h7,.inl ⟨hsol,c,e,rfl,by rw [aI]; exact h8,fun q hq=>?_⟩,fun o=>?_⟩
     ·rw [aI] at hq
      rw [aX]
      exact .pure (h9 q hq) (bT _ _)
     ·show σ' (G.β _) o=none
      rw [post.old _ o (m.own_lt ow)]
      exact h6 o
   ·obtain ⟨o1,h6,h8,h9⟩:=m.vars j cs h3 hna
    have ow:bO G s.hp s.tk (G.β j) (.inl j):=⟨cs,h3,.inl ⟨hna,rfl⟩⟩
    refine ⟨o1,?_,h8.imp fun q v hq hr=>hr.keep keeps (dB (hcl.hp j _ cs h3).2 hq),fun o=>?_⟩
    ·show w'.heap[G.β j]? = _
     rw [keepO _ _ ow fun k hk hh=>h2 (by cases hh; exact hpos k hk)]
     exact h6
    ·show σ' (G.β j) o=none
     rw [post.old _ o (m.own_lt ow)]
     exact h9 o
  ·rcases hz j _ h with ⟨k,hk,rfl,h3⟩ | ⟨h2,h3⟩
   ·simp only [Prod.mk.injEq,true_and] at h3
    rcases cH (flg s.hp (ids.getD k 0)) (bs'.getD k []) with ⟨f,z1,n1,g1,e1,e2⟩ | ⟨e1,e2⟩
    ·rw [e2] at h3
     obtain ⟨fw0,z0,g0,a',c,h5,h6,h7⟩:=hrow k f z1 n1 g1 hk e1
     have hfl:flg s.hp (ids.getD k 0)=fw0:=by unfold flg; rw [h5]
     rw [hfl] at h3
     cases h3
     refine ⟨a',c,h6,fun b hb hc=>?_⟩
     obtain ⟨_,h8,h9,o,h10,h11⟩:=h7 b hb hc
     exact ⟨fun q=>(post.old b q h8).trans (h9 q),o,h10,h11⟩
    ·rw [e2] at h3
     have e4:=aX (bs'.getD k []) 1
     rw [← h3] at e4
     generalize nth (bs'.getD k []) 1 D.dead=d at e4
     cases d <;> simp [nth,D.pure1] at e4
   ·obtain ⟨a',c,h6,h7⟩:=m.rows j fw z n g h3
    refine ⟨a',c,h6,fun b hb hc=>?_⟩
    obtain ⟨h9,o,h10,h11⟩:=h7 b hb hc
    have ow:bO G s.hp s.tk b (.inl j):=⟨_,h3,.inr ⟨fw,z,n,g,c,rfl,by rw [h6.at_,hb],hc⟩⟩
    refine ⟨fun q=>(post.old b q (m.own_lt ow)).trans (h9 q),o,?_,h11.mono post.le⟩
    rw [keepO _ _ ow fun k hk hh=>h2 (by cases hh; exact hpos k hk)]
    exact h10
  ·rcases hz j _ h with ⟨k,hk,h2,h3⟩ | ⟨h2,h3⟩
   ·cases h3
   ·intro q hq
    obtain ⟨v,h5,h6,h7⟩:=m.froz j cs h3 q hq
    exact ⟨v,post.le _ _ _ h5,h6.mono post.le,h7⟩
  ·rcases htk j z n h with ⟨h5,h6,q,g,h7⟩ | ⟨h5,h6⟩
   ·obtain ⟨a',c',h8,h9,h10⟩:=resAt j q z n g h5 h6 h7
    refine ⟨a',c',h8,h9,fun hn=>?_⟩
    obtain ⟨b,cur,e,e1,e2,e3,e4,_⟩:=h10 hn
    exact ⟨b,cur,e,e1,e2,e3,e4⟩
   ·obtain ⟨a',c',h8,h9,h10⟩:=m.toks j z n h5
    refine ⟨a',c',?_,h9,fun hn=>?_⟩
    ·show (if id≤j∧j < id+rs.length then _ else G.ρ j)=_
     rw [if_neg (by omega)]
     exact h8
    ·obtain ⟨b,cur,e,e1,e2,e3,e4⟩:=h10 hn
     have ow:bO G s.hp s.tk b (.inr j):=⟨z,n,c',h5,by rw [h8,e1],hn⟩
     refine ⟨b,cur,e,e1,?_,e3,fun o ho=>?_⟩
     ·rw [keepO _ _ ow fun k hk hh=>by cases hh]
      exact e2
     ·show σ' b o=none
      rw [post.old _ o (m.own_lt ow)]
      exact e4 o ho
  ·rcases hown b k h with h1 | ⟨h1,j,rfl,h2,h3,h5⟩
   ·rcases hown b k' h' with h6 | ⟨h6,_⟩
    ·exact m.own1 b k k' h1 h6
    ·have:=m.own_lt h1
     omega
   ·rcases hown b k' h' with h6 | ⟨h6,j',rfl,h7,h8,h9⟩
    ·have:=m.own_lt h6
     omega
    ·have:=post.own (j - id) (j' - id) b (by omega) (by omega) h5 h9
     congr 1
     omega
  ·rcases hown b k h with h1 | ⟨h1,_⟩
   ·exact m.own2 b k h1
   ·exact .inl (Nat.le_trans m.base h1)
  ·obtain ⟨h1,h2,h3,cur,e,h5,h6⟩:=m.resv b r hr
   have hlt2:=(Array.getElem?_eq_some_iff.1 h5).1
   refine ⟨h1,fun k hk=>?_,fun o ho=>(post.old b o hlt2).trans (h3 o ho),cur,e,?_,h6⟩
   ·rcases hown b k hk with h7 | ⟨h7,_⟩
    ·exact h2 k h7
    ·omega
   ·rw [keepB b hlt2 fun k hk hh=>?_]
    ·exact h5
    ·rcases hlt k hk with h7 | h7
     ·exact h2 _ (hh ▸ h7)
     ·omega
  ·rcases hz j _ h with ⟨k,hk,rfl,h3⟩ | ⟨h2,h3⟩
   ·simp only [Prod.mk.injEq,true_and] at h3
    rcases cH (flg s.hp (ids.getD k 0)) (bs'.getD k []) with ⟨f,z1,n1,g1,e1,e2⟩ | ⟨e1,e2⟩
    ·rw [e2] at h3
     cases h3
    ·rw [e2] at h3
     have e4:=aX (bs'.getD k []) 1
     rw [← h3] at e4
     generalize nth (bs'.getD k []) 1 D.dead=d at e4
     cases d <;> simp [nth,D.pure1] at e4
   ·obtain ⟨h5,es,ck,h6,h7⟩:=m.lins j x va n ks vs h3 hx
    have ow:bO G s.hp s.tk (G.β j) (.inl j):=⟨_,h3,.inl ⟨by cases x <;> rfl,rfl⟩⟩
    refine ⟨h5,es,ck,?_,h7⟩
    show w'.heap[G.β j]? = _
    rw [keepO _ _ ow fun k hk hh=>h2 (by cases hh; exact hpos k hk)]
    exact h6
 have tokSome:∀ j q z n g,j < rs.length→nth rs j .dead=.slice (.own q) z n g→bX s.tk (aS (aZ rs) id) (id+j)=some (z,n)∧G'.ρ (id+j)=vs.getD j undef:=by
  intro j q z n g hj hr
  refine ⟨?_,?_⟩
  ·rw [fC]
   have:i5 (aZ rs) id (id+j)=some (z,n):=by
    unfold i5
    rw [show id+j - id=j from by omega,gD,hr]
    simp only [D.res,cB]
    rw [if_pos (by omega)]
   rw [this]
  ·show (if id≤id+j∧id+j < id+rs.length then _ else _)=_
   rw [if_pos (by omega),show id+j - id=j from by omega]
 have rts:∀ j,j < rs.length→Rt F G' (bX s.tk (aS (aZ rs) id)) (vs.getD j undef) (nth (b7 (aZ rs) id) j .dead):=by
  intro j hj
  rw [m8,gD]
  exact aIF (post.res j hj) rfl fun q z n g hr=>tokSome j q z n g hj hr
 refine ⟨G',rfl,rfl,keeps,mem,fun b k hk=>?_,rts⟩
 rcases hown b k hk with h | ⟨_,j,_,h1,h2,q,z,n,g,c,h3,_⟩
 ·exact .inl (m.own_lt h)
 ·exact .inr ⟨j - id,q,z,n,g,by omega,h3⟩
theorem gJ {lo hi:Nat} (f:Bool) (cs:List D):names lo hi (fD f cs)=false:=by
 rcases cH f cs with ⟨_,z,n,g,rfl,e⟩ | ⟨_,e⟩
 ·rfl
 ·rw [e]
  exact dD _
theorem aCE (r:Rel F B np w0 ext σ0 G s a w) {id:Nat} (hnp:np≤id) (hcl:Clean id (id+4) s) {ids:List Nat} {bs bs':List (List D)} (hb:b9 s.hp ids=some bs) (hd:cY ids=true) {σ':Sg} {rs:List D} {vs:Array Value}
  (post:CPost (jB G s.hp ids) w (eY G s.hp w.heap.size ids 0) w' σ' rs bs' vs) (hback:lW bs bs'=true) (h4:rs.length≤4) (dst:Option Nat) :
  ∃ G',Rel F B np w0 ext σ0 G' (s.next dst (k6 (b7 (aZ rs) id)) ⟨aY s.hp ids bs',aS (aZ rs) id⟩) (a.put dst (eE vs)) w':=by
 obtain ⟨G',_,_,keeps,mem,_,rts⟩:=tJ r hnp hcl hb hd post hback h4
 refine ⟨G',r.put hnp hcl keeps mem ?_ dst⟩
 have hsz:=post.size
 match rs,hsz,rts with
 | [d],hsz,rts =>
  have h1:=rts 0 (by simp)
  have e:b7 (aZ [d]) id=[nth (b7 (aZ [d]) id) 0 .dead]:=by
   cases hq:b7 (aZ [d]) id with
   | nil=>have:=dX (aZ [d]) id; rw [hq] at this; simp [cB] at this
   | cons x l =>
    have:=dX (aZ [d]) id
    rw [hq] at this
    simp [cB] at this
    subst this
    rfl
  rw [e]
  have e2:eE vs=vs.getD 0 undef:=by
   have:vs.size=1:=hsz
   simp [eE,this,Array.getD_eq_getD_getElem?]
  rw [e2]
  exact .any h1.ra
 | [],hsz,rts =>
  have e2:eE vs=.tuple vs:=by
   have:vs.size=0:=hsz
   simp [eE,this]
  rw [e2]
  exact .tup vs [] hsz fun j hj=>by simp at hj
 | d::d'::l,hsz,rts =>
  have e2:eE vs=.tuple vs:=by
   have:¬vs.size=1:=by rw [hsz]; simp
   simp [eE,this]
  have e1:k6 (b7 (aZ (d::d'::l)) id)=.tup (b7 (aZ (d::d'::l)) id):=by
   have:=dX (aZ (d::d'::l)) id
   generalize b7 (aZ (d::d'::l)) id=x at this
   match x,this with
   | a::b::c,_=>rfl
  rw [e1,e2]
  exact .tup vs _ (by rw [dX,cB]; exact hsz) fun j hj=>rts j (by rw [dX,cB] at hj; exact hj)
theorem zX (hp:Nat→Option (Bool×List D)) (l m:List (Nat×Bool×List D)):dH hp (l++m)=dH (dH hp l) m:=by
 induction l generalizing hp with
 | nil=>rfl
 | cons x l ih=>obtain ⟨i,e⟩:=x; simp only [List.cons_append,dH,ih]
theorem t4 (r:Rel F B np w0 ext σ0 G s a w) {id:Nat} (hnp:np≤id) (hcl:Clean id (id+4) s) {ids:List Nat} {bs bs':List (List D)} (hb:b9 s.hp ids=some bs) (hd:cY ids=true) {σ':Sg} {l:List D} {vs:Array Value}
  (post:CPost (jB G s.hp ids) w (eY G s.hp w.heap.size ids 0) w' σ' [.newp l] bs' vs) (hback:lW bs bs'=true) (hl:aG (aJ l)=true) (dst:Option Nat) :
  ∃ G',Rel F B np w0 ext σ0 G' (s.next dst (.ptr id 0) ⟨aY s.hp ids bs'++[(id,false,aJ l)],[]⟩) (a.put dst (eE vs)) w':=by
 have hres:=post.res 0 (by simp)
 simp only [nth] at hres
 obtain ⟨b,c,e,hv,hB,hc,hcs,hrp,hσ⟩:=hres
 have post':CPost (jB G s.hp ids) w (eY G s.hp w.heap.size ids 0) w' σ' [.dead] bs' vs :=
  { post with
   size:=post.size
   res:=fun j hj=>by
    have:j=0:=by simpa using hj
    subst this
    exact .dead _
   own:=fun i j b hi hj _ _=>by simp at hi hj; omega }
 obtain ⟨G',hσ',hγ',keeps,mem,hown,_⟩:=tJ r hnp hcl hb hd post' hback (by simp)
 have hlow:∀ k,¬bO G' (dH s.hp (aY s.hp ids bs')) (bX s.tk (aS (aZ [.dead]) id)) b k:=fun k hk=>by
  rcases hown b k hk with h | ⟨j,q,z,n,g,h1,h2⟩
  ·omega
  ·have:j=0:=by simpa using h1
   subst this
   cases h2
 have hclean:∀ id' f cs',dH s.hp (aY s.hp ids bs') id'=some (f,cs')→id'≠id∧names id (id+1) cs'=false:=by
  intro id' f cs' h
  obtain ⟨hl',hbs⟩:=dC hb
  rcases rV ids bs' s.hp s.hp hd (by have:=(m5 hback).1; omega) id' _ h with ⟨k,hk,rfl,h3⟩ | ⟨_,h3⟩
  ·obtain ⟨cs0,h5,_⟩:=hbs k hk
   have:=(hcl.hp _ _ _ h5).1
   refine ⟨by omega,?_⟩
   cases h3
   exact gJ _ _
  ·have:=hcl.hp _ _ _ h3
   exact ⟨by omega,cT this.2 (Nat.le_refl _) (by omega)⟩
 have m2:=mem.addVar id b (aJ l) c e hc hl (by rw [aI]; exact hcs) (fun j hj=>by
   rw [aI] at hj
   rw [aX]
   exact .pure (by rw [hσ']; exact hrp j hj) (bT _ _)) (fun o=>by rw [hσ']; exact hσ o) hlow (.inl (Nat.le_trans r.mem.base hB))
  (by
   cases hh:dH s.hp (aY s.hp ids bs') id with
   | none=>rfl
   | some x=>exact absurd rfl (hclean id x.1 x.2 hh).1)
  (fun id' f cs' h=>(hclean id' f cs' h).2) (by
   rw [hγ']
   cases hg:G.γ b with
   | none=>rfl
   | some r2 =>
    obtain ⟨_,_,_,_,_,h5,_⟩:=r.mem.resv b r2 hg
    have:=(Array.getElem?_eq_some_iff.1 h5).1
    omega)
 refine ⟨{ G' with β:=fun j=>if j=id then b else G'.β j },?_⟩
 have kk:Keeps id (id+4) G { G' with β:=fun j=>if j=id then b else G'.β j } s.tk s.tk :=
  ⟨keeps.σ,fun j hj=>by simp only; rw [if_neg (by omega)]; exact keeps.β j hj,fun i z m hi h=>keeps.tok i z m hi h,fun i n v hi h=>keeps.row i n v hi h⟩
 have hput:=r.put (d:=.ptr id 0) (v:=eE vs) hnp hcl kk m2 (by
  have e2:eE vs=vs.getD 0 undef:=by
   have:vs.size=1:=post.size
   simp [eE,this,Array.getD_eq_getD_getElem?]
  rw [e2,hv]
  have:=Rc.ptr (F:=F) (G:={ G' with β:=fun j=>if j=id then b else G'.β j }) (tk:=s.tk) id 0
  simp only [if_true] at this
  exact .any (.cell this)) dst
 unfold St.next
 rw [zX]
 exact hput
theorem sZ (r:Rel F B np w0 ext σ0 G s a w) {id:Nat} (hnp:np≤id) (hcl:Clean id (id+4) s) {ids:List Nat} {bs bs':List (List D)} (hb:b9 s.hp ids=some bs) (hd:cY ids=true) {σ':Sg} {w0r:Bool} {z n:Nat} {g:Nat→List D} {vs:Array Value}
  (post:CPost (jB G s.hp ids) w (eY G s.hp w.heap.size ids 0) w' σ' [.arr w0r z n g] bs' vs) (hback:lW bs bs'=true) (dst:Option Nat) :
  ∃ G',Rel F B np w0 ext σ0 G' (s.next dst (.msl id z n) ⟨aY s.hp ids bs'++[(id,false,[.dead,.arr true z n g])],[]⟩) (a.put dst (eE vs)) w':=by
 have hres:=post.res 0 (by simp)
 simp only [nth] at hres
 obtain ⟨ad,c,hv,hnc,hblk⟩:=hres
 have post':CPost (jB G s.hp ids) w (eY G s.hp w.heap.size ids 0) w' σ' [.dead] bs' vs :=
  { post with
   size:=post.size
   res:=fun j hj=>by
    have:j=0:=by simpa using hj
    subst this
    exact .dead _
   own:=fun i j b hi hj _ _=>by simp at hi hj; omega }
 obtain ⟨G',hσ',hγ',keeps,mem,hown,_⟩:=tJ r hnp hcl hb hd post' hback (by simp)
 have hlow:∀ b,w.heap.size≤b→∀ k,¬bO G' (dH s.hp (aY s.hp ids bs')) (bX s.tk (aS (aZ [.dead]) id)) b k:=fun b hB k hk=>by
  rcases hown b k hk with h | ⟨j,q,z,n,g,h1,h2⟩
  ·omega
  ·have:j=0:=by simpa using h1
   subst this
   cases h2
 have hclean:∀ id' f cs',dH s.hp (aY s.hp ids bs') id'=some (f,cs')→id'≠id∧names id (id+1) cs'=false:=by
  intro id' f cs' h
  obtain ⟨hl',hbs⟩:=dC hb
  rcases rV ids bs' s.hp s.hp hd (by have:=(m5 hback).1; omega) id' _ h with ⟨k,hk,rfl,h3⟩ | ⟨_,h3⟩
  ·obtain ⟨cs0,h5,_⟩:=hbs k hk
   have:=(hcl.hp _ _ _ h5).1
   refine ⟨by omega,?_⟩
   cases h3
   exact gJ _ _
  ·have:=hcl.hp _ _ _ h3
   exact ⟨by omega,cT this.2 (Nat.le_refl _) (by omega)⟩
 have m2:=mem.addRow (id:=id) (z:=z) (n:=n) (c:=c) (ad:=ad) (g:=g) hnc hnp (by
   cases hh:dH s.hp (aY s.hp ids bs') id with
   | none=>rfl
   | some x=>exact absurd rfl (hclean id x.1 x.2 hh).1) (fun hc=>by
   obtain ⟨b,h1,h2,h3,o,h4,cur,e,rfl,h5,h6⟩:=hblk hc
   refine ⟨b,cur,e,h1,h4,h5,fun o=>by rw [hσ']; exact h3 o,hlow b h2,Nat.le_trans r.mem.base h2,?_,fun i hi=>⟨(h6 i hi).1,fun j hj=>⟨((h6 i hi).2 j hj).1,by rw [hσ']; exact ((h6 i hi).2 j hj).2⟩⟩⟩
   rw [hγ']
   cases hg:G.γ b with
   | none=>rfl
   | some r2 =>
    obtain ⟨_,_,_,_,_,h7,_⟩:=r.mem.resv b r2 hg
    have:=(Array.getElem?_eq_some_iff.1 h7).1
    omega)
  (fun id' f cs' h=>(hclean id' f cs' h).2)
 have kk:Keeps id (id+4) G { G' with η:=fun i k=>if i=id then (if k=n then some (.slice ad n c) else none) else G'.η i k } s.tk s.tk :=
  ⟨keeps.σ,fun j hj=>keeps.β j hj,fun i z m hi h=>keeps.tok i z m hi h,fun i k v hi h=>by
   simp only
   rw [if_neg (by omega)]
   exact keeps.row i k v hi h⟩
 refine ⟨{ G' with η:=fun i k=>if i=id then (if k=n then some (.slice ad n c) else none) else G'.η i k },?_⟩
 have hput:=r.put (d:=.msl id z n) (v:=eE vs) hnp hcl kk m2 (by
  have e2:eE vs=vs.getD 0 undef:=by
   have:vs.size=1:=post.size
   simp [eE,this,Array.getD_eq_getD_getElem?]
  rw [e2,hv]
  refine .msl id z n ad c (by simp) hnc (fun hn=>?_)
  obtain ⟨b,h1,_⟩:=hblk (by omega)
  exact ⟨b,h1⟩) dst
 unfold St.next
 rw [zX]
 exact hput
end
section
variable {P:Program} {F:Nat→FuncId} {B np:Nat} {w0 w w':World} {ext:List Nat} {σ0:Og} {G G':Gh} {s:St} {a:Act} {ft:FT} {hp:Nat→Option (Bool×List D)} {tk:Nat→Option (Nat×Nat)} {lo hi:Nat} {E:Env}
theorem mJ:∀ {l:List D},aG (aJ l)=true→aG l=true
 | [],_=>rfl
 | d::l,h=>by
  cases d <;> first | (simp only [aJ,D.pure1,aG] at h; exact mJ (l:=l) h) | (simp [aJ,D.pure1,aG] at h; done)
theorem i4:∀ (l:List D) (j:Nat),(lK l j).length=l.length
 | [],_=>rfl
 | d::l,j=>by cases d <;> simp [lK,i4 l]
theorem Rc.pured {v:Value} {d:D} (h:Rc F G tk v d) {G1:Gh} (e:G1.σ=G.σ) (hp:∀ i o,d≠.ptr i o):Rc F G1 (fun _=>none) v d.pure:=by
 cases h with
 | pure h1 h2 =>
  have h3:Rp G1.σ v d.pure1:=e ▸ h1.pure1
  have:d.pure=d.pure1:=by cases h1 <;> rfl
  rw [this]
  exact .pure h3 (bT _ _)
 | ptr i o=>exact absurd rfl (hp i o)
 | eptr b o l h1=>exact .eptr b o l (e ▸ h1)
 | fn f cap l h1 h2=>exact .fn f cap l h1 fun j hj=>e ▸ h2 j hj
 | mp _ _ _ _ _ _ _ _ _ _=>exact .pure (.dead _) trivial
theorem Rd.pured {v:Value} {d:D} (h:Rd F G tk v d) {G1:Gh} (e:G1.σ=G.σ) (hp:∀ i o,d≠.ptr i o):Rd F G1 (fun _=>none) v d.pure:=by
 cases h with
 | any h =>
  cases h with
  | cell h=>exact .any (.cell (h.pured e hp))
  | agg cs l h1 h2 =>
   refine .any (.agg cs (aJ l) (by rw [aI]; exact h1) fun j hj=>?_)
   rw [aI] at hj
   rw [aX]
   exact .pure (e ▸ (h2 j hj).pure1) (bT _ _)
 | tup vs l h1 h2=>exact Rd.dead _
 | mref id=>exact Rd.dead _
 | msl _ _ _ _ _ _ _ _=>exact Rd.dead _
 | rptr _ _ _ _ _ _ _ _=>exact Rd.dead _
theorem mN:∀ (l:List D) (bs:List (List D)) (k:Prop),nL l bs k↔nL l bs True∧k
 | [],_,k=>by simp [nL]
 | d::l,bs,k=>by
  have ih:=fun bs=>mN l bs k
  cases d with
  | ptr i o =>
   simp only [nL]
   cases bQ (bs.headD []) with
   | true=>simp [Br]
   | false=>exact ih _
  | msl i z n =>
   simp only [nL]
   cases sE (bs.headD []) with
   | none=>simp
   | some m =>
    simp only
    rw [ih bs.tail]
    constructor
    ·rintro ⟨h1,h2,h3⟩; exact ⟨⟨h1,h2⟩,h3⟩
    ·rintro ⟨⟨h1,h2⟩,h3⟩; exact ⟨h1,h2,h3⟩
  | _=>exact ih _
theorem aBV {b:List D} {m:Nat} (h:sE b=some m):∃ w z g,b=[.dead,.arr w z m g]:=by
 unfold sE at h
 split at h
 ·cases h
  exact ⟨_,_,_,rfl⟩
 ·cases h
theorem rU {ids:List Nat} {hs:Nat}:∀ (l:List D) (vals:List Value) (bs:List (List D)) (p:Nat),(∀ i,i < l.length→Rd F G tk (vals.getD i undef) (nth l i .dead))→nL l bs True →
  (∀ k,k < (ptrs l).length→p+k < ids.length∧ids.getD (p+k) 0=(ptrs l).getD k 0∧∃ cs,hp ((ptrs l).getD k 0)=some (false,cs)∧bs.getD k []=fD false cs)→(ptrs l).length=bs.length→∀ i,i < l.length →
  Rd F (G0 (jB G hp ids) (eY G hp hs ids 0)) (fun _=>none) (vals.getD i undef) (nth (lK l p) i .dead)
 | [],_,_,_,_,_,_,_,i,hi=>by simp at hi
 | d::l,vals,bs,p,h,hlen,hids,hbl,i,hi=>by
  have h0:=h 0 (by simp)
  simp only [nth] at h0
  obtain ⟨v0,vr,hv⟩:∃ (v0:Value) (vr:List Value),∀ i,vals.getD i undef=(v0::vr).getD i undef:=by
   cases vals with
   | nil=>exact ⟨undef,[],fun i=>by cases i <;> simp⟩
   | cons x y=>exact ⟨x,y,fun _=>rfl⟩
  simp only [hv] at h h0 ⊢
  simp only [List.getD_cons_zero] at h0
  have h':∀ i,i < l.length→Rd F G tk (vr.getD i undef) (nth l i .dead):=fun i hi=>by
   have:=h (i+1) (by simpa using hi)
   simpa [nth] using this
  by_cases hp1:∃ id off,d=.ptr id off
  ·obtain ⟨id,off,rfl⟩:=hp1
   simp only [lK,ptrs] at hids hbl ⊢
   cases bs with
   | nil=>simp at hbl
   | cons b bs =>
    have hk0:=hids 0 (by simp)
    obtain ⟨e1,e2,cs,e3,e4⟩:=hk0
    simp only [Nat.add_zero,List.getD_cons_zero] at e1 e2 e3 e4
    simp only [nL,List.headD_cons,List.tail_cons] at hlen
    have hb:bQ b=false:=by
     cases hb:bQ b with
     | false=>rfl
     | true=>rw [hb] at hlen; exact hlen.elim
    rw [hb] at hlen
    have ha:bQ cs=false:=by
     rcases cH false cs with ⟨_,_,_,_,rfl,h8⟩ | ⟨h7,h8⟩
     ·rw [e4,h8] at hb
      cases hb
     ·exact h7
    cases i with
    | zero =>
     have:=h0.ptr_inv
     subst this
     simp only [nth,List.getD_cons_zero]
     have:(Value.pointer (some ⟨G.β id,off,none⟩))=.pointer (some ⟨(G0 (jB G hp ids) (eY G hp hs ids 0)).β p,off,none⟩):=by
      simp only [G0]
      rw [nA _ _ _ _ e1,e2,j6 e3 ha]
     rw [this]
     exact .any (.cell (.ptr _ _))
    | succ i =>
     have:=rU (hs:=hs) l vr bs (p+1) h' hlen (fun k hk=>by
      have:=hids (k+1) (by simpa using hk)
      rw [show p+1+k=p+(k+1) from by omega]
      simpa using this) (by simpa using hbl) i (by simpa using hi)
     simpa [nth] using this
  ·by_cases hp2:∃ id z n,d=.msl id z n
   ·obtain ⟨id,z,n,rfl⟩:=hp2
    simp only [lK,ptrs] at hids hbl ⊢
    cases bs with
    | nil=>simp at hbl
    | cons b bs =>
     have hk0:=hids 0 (by simp)
     obtain ⟨e1,e2,cs,e3,e4⟩:=hk0
     simp only [Nat.add_zero,List.getD_cons_zero] at e1 e2 e3 e4
     simp only [nL,List.headD_cons,List.tail_cons] at hlen
     cases hm:sE b with
     | none=>rw [hm] at hlen; exact hlen.elim
     | some m1 =>
     rw [hm] at hlen
     obtain ⟨w1,z1,g1,hb⟩:=aBV hm
     subst hb
     obtain ⟨hn,hlen⟩:=hlen
     subst hn
     obtain ⟨fw,g2,rfl⟩:∃ fw g2,cs=[.dead,.arr fw z1 n g2]:=by
      rcases cH false cs with ⟨fw,_,_,g2,rfl,h8⟩ | ⟨h7,h8⟩
      ·rw [h8] at e4
       cases e4
       exact ⟨fw,_,rfl⟩
      ·rw [h8] at e4
       have e5:=aX cs 1
       rw [← e4] at e5
       generalize nth cs 1 D.dead=d at e5
       cases d <;> simp [nth,D.pure1] at e5
     cases i with
     | zero =>
      obtain ⟨a,c,rfl,h2,h3,h4⟩:=h0.msl_inv
      simp only [nth,List.getD_cons_zero]
      refine .msl p z n a c ?_ h3 h4
      show sK G hp ids p n=_
      rw [mX e1 (by rw [e2]; exact e3),if_pos rfl,e2]
      exact h2
     | succ i =>
      have:=rU (hs:=hs) l vr bs (p+1) h' hlen (fun k hk=>by
       have:=hids (k+1) (by simpa using hk)
       rw [show p+1+k=p+(k+1) from by omega]
       simpa using this) (by simpa using hbl) i (by simpa using hi)
      simpa [nth] using this
   ·have hp':∀ i o,d≠.ptr i o:=fun i o e=>hp1 ⟨i,o,e⟩
    have hp2':∀ i z n,d≠.msl i z n:=fun i z n e=>hp2 ⟨i,z,n,e⟩
    have e1:lK (d::l) p=d.pure::lK l p:=by cases d <;> first | rfl | exact absurd rfl (hp' _ _) | exact absurd rfl (hp2' _ _ _)
    have e2:ptrs (d::l)=ptrs l:=by cases d <;> first | rfl | exact absurd rfl (hp' _ _) | exact absurd rfl (hp2' _ _ _)
    have e3:nL (d::l) bs True=nL l bs True:=by cases d <;> first | rfl | exact absurd rfl (hp' _ _) | exact absurd rfl (hp2' _ _ _)
    rw [e1]
    rw [e2] at hids hbl
    rw [e3] at hlen
    cases i with
    | zero =>
     simp only [nth,List.getD_cons_zero]
     exact h0.pured rfl hp'
    | succ i =>
     have:=rU (hs:=hs) l vr bs p h' hlen hids hbl i (by simpa using hi)
     simpa [nth] using this
theorem aBD (d:D) (hp:∀ i o,d≠.ptr i o):d.pure.names lo hi=false:=by
 cases d with
 | agg l=>exact dD l
 | ptr i o=>exact absurd rfl (hp i o)
 | _=>rfl
theorem j8 (h:Nat):∀ (l:List D) (j0 i:Nat),i < l.length→(nth (lK l j0) i .dead).names (j0+(ptrs l).length) h=false
 | [],_,i,hi=>by simp at hi
 | d::l,j0,i,hi=>by
  by_cases hp:∃ id off,d=.ptr id off
  ·obtain ⟨id,off,rfl⟩:=hp
   simp only [lK,ptrs,List.length_cons]
   cases i with
   | zero=>exact a7 (by omega)
   | succ i =>
    have:=j8 h l (j0+1) i (by simpa using hi)
    rw [show j0+((ptrs l).length+1)=j0+1+(ptrs l).length from by omega]
    exact this
  ·by_cases hp2:∃ id z n,d=.msl id z n
   ·obtain ⟨id,z,n,rfl⟩:=hp2
    simp only [lK,ptrs,List.length_cons]
    cases i with
    | zero=>exact a7 (by omega)
    | succ i =>
     have:=j8 h l (j0+1) i (by simpa using hi)
     rw [show j0+((ptrs l).length+1)=j0+1+(ptrs l).length from by omega]
     exact this
   ·have hp':∀ i o,d≠.ptr i o:=fun i o e=>hp ⟨i,o,e⟩
    have hp2':∀ i z n,d≠.msl i z n:=fun i z n e=>hp2 ⟨i,z,n,e⟩
    have e1:lK (d::l) j0=d.pure::lK l j0:=by cases d <;> first | rfl | exact absurd rfl (hp' _ _) | exact absurd rfl (hp2' _ _ _)
    have e2:ptrs (d::l)=ptrs l:=by cases d <;> first | rfl | exact absurd rfl (hp' _ _) | exact absurd rfl (hp2' _ _ _)
    rw [e1,e2]
    cases i with
    | zero=>exact aBD d hp'
    | succ i=>exact j8 h l j0 i (by simpa using hi)
theorem aAE (r:Rel F B np w0 ext σ0 G s a w) {vs:List D} {vals:Array Value} (hsz:vals.size=vs.length) (hv:∀ i,i < vs.length→Rd F G s.tk (vals.getD i undef) (nth vs i .dead)) {bs:List (List D)} (hb:b9 s.hp (ptrs vs)=some bs)
  (hd:cY (ptrs vs)=true) (hlen:nL vs bs True):CPre F (jB G s.hp (ptrs vs)) w (eY G s.hp w.heap.size (ptrs vs) 0) vals (lK vs 0) bs:=by
 have m:=r.mem
 obtain ⟨hl,hbs⟩:=dC hb
 have hget:∀ k,k < (ptrs vs).length→(eY G s.hp w.heap.size (ptrs vs) 0).getD k 0=fE G s.hp w.heap.size ((ptrs vs).getD k 0) k:=fun k hk=>by rw [nA _ _ _ _ hk,Nat.zero_add]
 refine ⟨m.stab,by rw [i4]; exact hsz,fun j hj=>?_,fun j hj h=>?_,by rw [jZ]; exact hl,?_,fun k hk=>?_⟩
 ·rw [i4] at hj
  have:=rU (F:=F) (G:=G) (tk:=s.tk) (hp:=s.hp) (ids:=ptrs vs) (hs:=w.heap.size) vs vals.toList bs 0 (fun i hi=>by rw [← bB]; exact hv i hi) hlen (fun k hk=>by
   obtain ⟨cs,h1,h2,_⟩:=hbs k hk
   rw [Nat.zero_add]
   exact ⟨hk,rfl,cs,h1,h2⟩) hl j hj
  rw [bB]
  exact this
 ·rw [i4] at hj
  have:=j8 h vs 0 j hj
  rw [Nat.zero_add,hl] at this
  exact this
 ·have hnd:=lO hd
  refine List.pairwise_iff_getElem.2 fun i j hi hj hij hxy=>?_
  have hi':i < (ptrs vs).length:=by rw [jZ] at hi; exact hi
  have hj':j < (ptrs vs).length:=by rw [jZ] at hj; exact hj
  have e1:fE G s.hp w.heap.size ((ptrs vs).getD i 0) i=fE G s.hp w.heap.size ((ptrs vs).getD j 0) j:=by
   rw [← hget i hi',← hget j hj']
   simpa [hi,hj] using hxy
  rcases xJ m hb hi' with h1 | h1 <;> rcases xJ m hb hj' with h2 | h2
  ·rw [e1] at h1
   have:=m.own1 _ _ _ h1 h2
   simp only [Sum.inl.injEq] at this
   rw [List.getD_eq_getElem?_getD,List.getD_eq_getElem?_getD] at this
   simp only [hi',hj',List.getElem?_eq_getElem,Option.getD_some] at this
   exact absurd this (List.pairwise_iff_getElem.1 hnd i j hi' hj' hij)
  ·have:=m.own_lt h1
   omega
  ·have:=m.own_lt h2
   omega
  ·omega
 ·rw [← hl] at hk
  obtain ⟨cs,h1,h2,h3⟩:=hbs k hk
  rw [h2]
  cases ha:bQ cs with
  | true =>
   obtain ⟨fw,z,n,g,rfl⟩:=cV ha
   obtain ⟨a1,c,h4,h5⟩:=m.rows _ fw z n g h1
   refine .inl ⟨z,n,g,rfl,a1,c,?_,h4.le,fun q hq=>?_,fun hc=>?_⟩
   ·show sK G s.hp (ptrs vs) k n=_
    rw [mX hk h1,if_pos rfl]
    exact h4.at_
   ·show sK G s.hp (ptrs vs) k q=none
    rw [mX hk h1,if_neg hq]
   ·obtain ⟨b,rfl⟩:=h4.blk hc
    obtain ⟨h6,o,h7,h8⟩:=h5 b rfl hc
    rw [hget k hk,qS h1 h4.at_ hc]
    exact ⟨rfl,h6,o,h7,h8⟩
  | false =>
   rw [oL ha] at h3 ⊢
   have h30:aG (aJ cs)=true:=by
    unfold okB at h3
    cases hh:bQ (aJ cs) with
    | false=>rw [hh,Bool.or_false] at h3; exact h3
    | true =>
     obtain ⟨w1,z1,n1,g1,e1⟩:=cV hh
     have e2:=aX cs 1
     rw [e1] at e2
     generalize nth cs 1 D.dead=d at e2
     cases d <;> simp [nth,D.pure1] at e2
   obtain ⟨o1,h4,hh1,h7⟩:=m.vars _ cs h1 ha
   obtain ⟨c,e,rfl,h5,h6⟩:=hh1.cells (mJ h30)
   have e1:(eY G s.hp w.heap.size (ptrs vs) 0).getD k 0=G.β ((ptrs vs).getD k 0):=by rw [hget k hk,j6 h1 ha]
   rw [e1]
   refine .inr ⟨h30,c,e,h4,by rw [aI]; exact h5,fun j hj=>?_,h7⟩
   rw [aI] at hj
   rw [aX]
   exact ⟨(h6 j hj).pure1,(bH _).symm⟩
theorem j5:∀ {ids:List Nat} {bs:List (List D)} {x:Nat×Bool×List D},x∈aY hp ids bs→x.1∈ids∧∃ f b,x.2.2=fD f b
 | [],_,_,h=>by simp [aY] at h
 | _::_,[],_,h=>by simp [aY] at h
 | i::ids,b::bs,x,h=>by
  simp only [aY,List.mem_cons] at h
  rcases h with rfl | h
  ·exact ⟨by simp,_,b,rfl⟩
  ·obtain ⟨h1,h2⟩:=j5 h
   exact ⟨List.mem_cons_of_mem _ h1,h2⟩
theorem kV:∀ (l:List D) (i:Nat) (x:Nat×Nat×Nat),x∈aS l i→x.1 < i+l.length
 | [],_,_,h=>by simp [aS] at h
 | d::l,i,x,h=>by
  simp only [List.length_cons]
  have other:x∈aS l (i+1)→x.1 < i+(l.length+1):=fun h=>by have:=kV l (i+1) x h; omega
  cases d with
  | slice t z n g =>
   cases t with
   | own j =>
    simp only [aS,List.mem_cons] at h
    rcases h with rfl | h
    ·simp only; omega
    ·exact other h
   | _=>exact other h
  | _=>exact other h
theorem aES (d:D) {i:Nat} (h:¬(lo≤i∧i < hi)):(d.res.own i).names lo hi=false∧(d.res.own i).names1 lo hi=false:=by
 cases d with
 | slice t z n g=>cases t <;> first | exact ⟨a7 h,a7 h⟩ | exact ⟨rfl,rfl⟩
 | agg c=>exact ⟨dD c,rfl⟩
 | _=>exact ⟨rfl,rfl⟩
theorem sB (h:Clean lo hi s) {id:Nat} {ids:List Nat} {bs bs':List (List D)} (hb:b9 s.hp ids=some bs) {rs:List D} (h4:rs.length≤4) (hid:id+4≤lo∨hi≤id) (dst:Option Nat) :
  Clean lo hi (s.next dst (k6 (b7 (aZ rs) id)) ⟨aY s.hp ids bs',aS (aZ rs) id⟩):=by
 have hnth:∀ j,j < rs.length→(nth (b7 (aZ rs) id) j .dead).names lo hi=false∧(nth (b7 (aZ rs) id) j .dead).names1 lo hi=false:=fun j hj=>by
  rw [m8,gD]
  exact aES _ (by omega)
 have hlen:(b7 (aZ rs) id).length=rs.length:=by rw [dX,cB]
 refine h.after ?_ (fun x hx=>?_) (fun x hx=>?_) dst
 ·generalize b7 (aZ rs) id=l at hnth hlen
  match l,hlen with
  | [],_=>rfl
  | [d],hl=>exact (hnth 0 (by rw [← hl]; simp)).1
  | d::d'::l,hl =>
   show names lo hi (d::d'::l)=false
   exact dY fun j hj=>(hnth j (by rw [← hl]; exact hj)).2
 ·obtain ⟨h1,f,c,h3⟩:=j5 hx
  rw [h3]
  obtain ⟨_,hbs⟩:=dC hb
  obtain ⟨k,hk,h5⟩:=List.mem_iff_getElem.1 h1
  obtain ⟨cs,h6,_⟩:=hbs k hk
  have:ids.getD k 0=x.1:=by simp [hk,h5]
  rw [this] at h6
  exact ⟨(h.hp _ _ _ h6).1,gJ f c⟩
 ·have h1:=fV _ _ _ hx
  have h2:=kV _ _ _ hx
  rw [cB] at h2
  omega
theorem mB (h:Clean lo hi s) {id:Nat} {ids:List Nat} {bs bs':List (List D)} (hb:b9 s.hp ids=some bs) {l:List D} (hid:id+4≤lo∨hi≤id) (dst:Option Nat) :
  Clean lo hi (s.next dst (.ptr id 0) ⟨aY s.hp ids bs'++[(id,false,aJ l)],[]⟩):=by
 refine h.after (v:=.ptr id 0) (show (Nat.ble lo id&&Nat.blt id hi)=false from a7 (by omega)) (fun x hx=>?_) (fun x hx=>by simp at hx) dst
 rcases List.mem_append.1 hx with hx | hx
 ·obtain ⟨h1,f,c,h3⟩:=j5 hx
  rw [h3]
  obtain ⟨_,hbs⟩:=dC hb
  obtain ⟨k,hk,h5⟩:=List.mem_iff_getElem.1 h1
  obtain ⟨cs,h6,_⟩:=hbs k hk
  have:ids.getD k 0=x.1:=by simp [hk,h5]
  rw [this] at h6
  exact ⟨(h.hp _ _ _ h6).1,gJ f c⟩
 ·simp only [List.mem_singleton] at hx
  subst hx
  exact ⟨by simp only; omega,dD l⟩
theorem l4 (h:Clean lo hi s) {id:Nat} {ids:List Nat} {bs bs':List (List D)} (hb:b9 s.hp ids=some bs) {z n:Nat} {g:Nat→List D} (hid:id+4≤lo∨hi≤id) (dst:Option Nat) :
  Clean lo hi (s.next dst (.msl id z n) ⟨aY s.hp ids bs'++[(id,false,[.dead,.arr true z n g])],[]⟩):=by
 refine h.after (v:=.msl id z n) (show (Nat.ble lo id&&Nat.blt id hi)=false from a7 (by omega)) (fun x hx=>?_) (fun x hx=>by simp at hx) dst
 rcases List.mem_append.1 hx with hx | hx
 ·obtain ⟨h1,f,c,h3⟩:=j5 hx
  rw [h3]
  obtain ⟨_,hbs⟩:=dC hb
  obtain ⟨k,hk,h5⟩:=List.mem_iff_getElem.1 h1
  obtain ⟨cs,h6,_⟩:=hbs k hk
  have:ids.getD k 0=x.1:=by simp [hk,h5]
  rw [this] at h6
  exact ⟨(h.hp _ _ _ h6).1,gJ f c⟩
 ·simp only [List.mem_singleton] at hx
  subst hx
  exact ⟨by simp only; omega,rfl⟩
theorem fZ {id:Nat} {ids:List Nat} {rs:List D} {bs bs':List (List D)} {v:D} {u:Upd} (h:(fX id ids hp bs rs bs').holds v u):lW bs bs'=true ∧
  ((rs.length ≤ 4 ∧ v = k6 (b7 (aZ rs) id) ∧ u = ⟨aY hp ids bs',aS (aZ rs) id⟩) ∨
   (∃ l,rs=[.newp l]∧aG (aJ l)=true∧v=.ptr id 0∧u=⟨aY hp ids bs'++[(id,false,aJ l)],[]⟩) ∨
   ∃ f z n g,rs=[.arr f z n g]∧v=.msl id z n∧u=⟨aY hp ids bs'++[(id,false,[.dead,.arr true z n g])],[]⟩):=by
 unfold fX at h
 split at h
 ·rename_i l
  obtain ⟨hb,rfl,rfl⟩:=aM h
  simp only [Bool.and_eq_true] at hb
  exact ⟨hb.1,.inr (.inl ⟨l,rfl,hb.2,rfl,rfl⟩)⟩
 ·rename_i f z n g
  obtain ⟨hb,rfl,rfl⟩:=aM h
  exact ⟨hb,.inr (.inr ⟨f,z,n,g,rfl,rfl,rfl⟩)⟩
 ·obtain ⟨hb,rfl,rfl⟩:=aM h
  simp only [Bool.and_eq_true] at hb
  exact ⟨hb.2,.inl ⟨Nat.le_of_ble_eq_true hb.1.2,rfl,rfl⟩⟩
abbrev aFB (F:Nat→FuncId) (B np:Nat) (w0:World) (ext:List Nat) (σ0:Og) (s:St) (a:Act) (dst:Option Nat) (id n:Nat) (k:D→Upd→Prop) (next:Act→World→Prop):Prop :=
 ∀ v u v' G' w',k v u→Rel F B np w0 ext σ0 G' (s.next dst v u) (a.put dst v') w'→(∀ lo hi,Clean lo hi s→(id+n≤lo∨hi≤id)→Clean lo hi (s.next dst v u))→next (a.put dst v') w'
theorem aDO {C:aK} {f:FuncId} (hC:COk P F f C) (r:Rel F B np w0 ext σ0 G s a w) {vs:List D} {vals:Array Value} (hsz:vals.size=vs.length) (hv:∀ i,i < vs.length→Rd F G s.tk (vals.getD i undef) (nth vs i .dead))
  {id:Nat} (hnp:np≤id) (hcl:Clean id (id+4) s) {k:D→Upd→Prop} (h:eO C id vs s.hp k) {o:Oper} (hop:(execOp a.eval o).run P w=(callFunc f vals).run P w) {next:Act→World→Prop} {Q:Exit→Act→World→Prop}
  (hn:aFB F B np w0 ext σ0 s a o.dst id 4 k next):o.wp P a w next Q:=by
 unfold Oper.wp
 rw [hop]
 unfold eO at h
 cases hb:b9 s.hp (ptrs vs) with
 | none=>rw [hb] at h; exact h.elim
 | some bs =>
  rw [hb] at h
  simp only at h
  cases hd:cY (ptrs vs) with
  | false=>rw [hd] at h; exact h.elim
  | true =>
   rw [hd] at h
   obtain ⟨hlen,h⟩:=(mN vs bs _).1 h
   have key:∀ (w':World) (rv:Array Value) (rs:List D) (bs':List (List D)) (σ':Sg),(fX id (ptrs vs) s.hp bs rs bs').then k →
     CPost (jB G s.hp (ptrs vs)) w (eY G s.hp w.heap.size (ptrs vs) 0) w' σ' rs bs' rv→next (a.put o.dst (eE rv)) w':=by
    intro w' rv rs bs' σ' hK post
    obtain ⟨v,u,hh,hK⟩:=cK hK
    obtain ⟨hl,⟨h4,rfl,rfl⟩ | ⟨l,rfl,hls,rfl,rfl⟩ | ⟨f,z,n,g,rfl,rfl,rfl⟩⟩:=fZ hh
    ·obtain ⟨G',r'⟩:=aCE r hnp hcl hb hd post hl h4 o.dst
     exact hn _ _ _ G' w' hK r' fun lo hi hc hid=>sB hc hb h4 hid o.dst
    ·obtain ⟨G',r'⟩:=t4 r hnp hcl hb hd post hl hls o.dst
     exact hn _ _ _ G' w' hK r' fun lo hi hc hid=>mB hc hb hid o.dst
    ·obtain ⟨G',r'⟩:=sZ r hnp hcl hb hd post hl o.dst
     exact hn _ _ _ G' w' hK r' fun lo hi hc hid=>l4 hc hb hid o.dst
   rcases hC with hC | hC
   ·rw [hC.enter,Oper.upon_enter]
    refine (hC.calls _ w _ vals _ bs _ (aAE r hsz hv hb hd hlen) h).mono fun e w' hh=>?_
    obtain ⟨rv,rs,bs',σ',rfl,hK,post⟩:=hh
    exact key w' rv rs bs' σ' hK post
   ·obtain ⟨w',rv,rs,bs',σ',hr,hK,post⟩:=hC.calls _ w _ vals _ bs _ (aAE r hsz hv hb hd hlen) h
    rw [hr,Oper.upon_value]
    exact key w' rv rs bs' σ' hK post
theorem Re.rd {v:Value} {d:D} (h:Re G.σ v d):Rd F G tk v d:=by
 cases h with
 | pure h1 h2=>rw [h2]; exact .any (.cell (.pure (h2 ▸ h1) (bT _ _)))
 | eptr b o l h1=>exact .any (.cell (.eptr b o l h1))
theorem Rd.fn_inv {v:Value} {f:Nat} {l:List D} (h:Rd F G tk v (.fn f l)):∃ cap:Array Value,v=.func (.func (F f)) #[] cap∧cap.size=l.length∧∀ j,j < l.length→Re G.σ (cap.getD j undef) (nth l j .dead):=by
 cases h with | any h=>cases h with | cell h=>cases h with | pure h _=>cases h | fn _ cap _ h1 h2=>exact ⟨cap,rfl,h1,h2⟩
theorem jG (o:AOp) (id:Nat) (args:List D) (k:D→Upd→Prop):step E o id hp tk args k=match o with
 | .call p f=>(match agc E id f with
  | some C=>bif p then eO C id args hp k else Br (pL args) (eO C id args hp k) False
  | none=>False)
 | .callv p=>(match args with
  | .fn f cap::r=>(match ag E f with
   | some C=>bif p then eO C id (r++cap) hp k else Br (pL (r++cap)) (eO C id (r++cap) hp k) False
   | none=>False)
  | _=>False)
 | o=>(aT o id hp tk args).then k:=by
 cases o <;> rfl
theorem aHE (hE:EnvOk P F E) (hft:∀ f j,ag ft f=some j→F j=f) (r:Rel F B np w0 ext σ0 G s a w) {o:Oper} {ao:AOp} {xs:List AX} (ht:aBY P ft np o=some (ao,xs)) (hok:jE ao=true) (hax:xs.all mG=true) {id:Nat} (hnp:np≤id)
  (hcl:Clean id (id+bD ao) s) {k:D→Upd→Prop} (h:step E ao id s.hp s.tk (evs s.fr xs) k) {next:Act→World→Prop} {Q:Exit→Act→World→Prop} (hn:aFB F B np w0 ext σ0 s a o.dst id (bD ao) k next):o.wp P a w next Q:=by
 have hnoc:dG ao=false→o.wp P a w next Q:=by
  intro hnc
  have h':(aT ao id s.hp s.tk (evs s.fr xs)).then k:=by
   rw [jG] at h
   cases ao <;> first | exact h | cases hnc
  obtain ⟨v,u,hh,hk⟩:=cK h'
  obtain ⟨w',r',v',G',h1,h2,h3⟩:=aH6 hft r ht hnc hnp hcl hh o.dst
  have:=hn v u v' G' w' hk h3 fun lo hi hc hid=>aF3 r hc hok hax hid hh o.dst
  unfold Oper.wp
  rw [h1]
  rcases h2 with rfl | ⟨rfl,rfl⟩
  ·exact this
  ·exact this
 rcases tH ht with ⟨c,hc,hcall⟩ | ⟨_,hnc⟩ | ⟨rfl,_⟩
 ·obtain ⟨callee,args,ts⟩:=c
  unfold qP at hcall
  split at hcall
  ·rename_i f hf
   simp only at hf
   subst hf
   split at hcall
   ·rename_i j as hj has
    cases hcall
    obtain ⟨h1,h2,h3⟩:=qR hft r has
    have:=hft f j hj
    subst this
    have hrun:(execOp a.eval o).run P w=(callFunc (F j) (args.map a.eval)).run P w:=by
     simp [execOp,hc,resolve,Act.eval,Deferred.ofValue,invoke]
    have hsz:(args.map a.eval).size=(evs s.fr xs).length:=by rw [h2,← h1]; simp
    have hv:∀ i,i < (evs s.fr xs).length→Rd F G s.tk ((args.map a.eval).getD i undef) (nth (evs s.fr xs) i .dead):=fun i hi=>by
     have:=h3 i (by omega)
     rw [bB,Array.toList_map]
     exact this
    rw [jG] at h
    simp only at h
    cases hE':agc E id j with
    | none=>rw [hE'] at h; exact h.elim
    | some C =>
     rw [hE'] at h
     simp only at h
     have hk:eO C id (evs s.fr xs) s.hp k:=by
      cases hp:aAH P (Nat.ble 1000000 np) (F j) ts.toList with
      | true=>rw [hp] at h; exact h
      | false =>
       rw [hp] at h
       simp only [cond_false] at h
       cases hnp:pL (evs s.fr xs) with
       | true=>rw [hnp] at h; exact h
       | false=>rw [hnp] at h; exact h.elim
     exact aDO (hE.get hE') r hsz hv hnp hcl hk hrun hn
   ·cases hcall
  ·rename_i t ht'
   simp only at ht'
   subst ht'
   rw [Option.map_eq_some_iff] at hcall
   obtain ⟨as,has,hcall⟩:=hcall
   cases hcall
   obtain ⟨h1,h2,h3⟩:=aCL hft r has
   rw [jG] at h
   simp only [evs] at h
   split at h
   ·rename_i f cap rest hargs
    obtain ⟨hf,hr⟩:=List.cons.inj hargs
    subst hr
    have hfn:=a9 (a:=a) (ft:=ft) hft r (x:=.tmp t) (ax:=.t t) rfl
    rw [hf] at hfn
    obtain ⟨cv,e1,e2,e3⟩:=hfn.fn_inv
    have hrun:(execOp a.eval o).run P w=(callFunc (F f) (args.map a.eval++cv)).run P w:=by
     simp [execOp,hc,resolve,e1,Deferred.ofValue,invoke]
    have hsz0:(args.map a.eval).size=(evs s.fr as).length:=by rw [h2,← h1]; simp
    have hsz:(args.map a.eval++cv).size=(evs s.fr as++cap).length:=by
     rw [Array.size_append,List.length_append,hsz0,e2]
    have hv:∀ i,i < (evs s.fr as++cap).length→Rd F G s.tk ((args.map a.eval++cv).getD i undef) (nth (evs s.fr as++cap) i .dead):=fun i hi=>by
     rw [hZ]
     rw [List.length_append] at hi
     split
     ·rename_i hlt
      have:=h3 i (by omega)
      have e4:(args.map a.eval++cv).getD i undef=(args.map a.eval).getD i undef:=by
       simp only [Array.getD_eq_getD_getElem?]
       rw [Array.getElem?_append_left (by omega)]
      rw [e4,bB,Array.toList_map]
      exact this
     ·rename_i hge
      have e4:(args.map a.eval++cv).getD i undef=cv.getD (i - (evs s.fr as).length) undef:=by
       simp only [Array.getD_eq_getD_getElem?]
       rw [Array.getElem?_append_right (by omega),hsz0]
      rw [e4]
      exact (e3 _ (by omega)).rd
    cases hE':ag E f with
    | none=>rw [hE'] at h; exact h.elim
    | some C =>
     rw [hE'] at h
     simp only at h
     have hk:eO C id (evs s.fr as++cap) s.hp k:=by
      cases hp:xY P (Nat.ble 1000000 np) ts.toList with
      | true=>rw [hp] at h; exact h
      | false =>
       rw [hp] at h
       simp only [cond_false] at h
       cases hnp:pL (evs s.fr as++cap) with
       | true=>rw [hnp] at h; exact h
       | false=>rw [hnp] at h; exact h.elim
     exact aDO (hE.2 f C hE') r hsz hv hnp hcl hk hrun hn
   ·exact h.elim
  ·rename_i b hb
   refine hnoc ?_
   unfold nF at hcall
   split at hcall
   ·unfold aDF at hcall
    split at hcall <;> first | (cases hcall; rfl) | cases hcall
   ·unfold o5 at hcall
    split at hcall
    ·split at hcall
     ·split at hcall
      ·cases hcall; rfl
      ·cases hcall
     ·cases hcall
    ·cases hcall
   ·rw [Option.map_eq_some_iff] at hcall
    obtain ⟨_,_,hcall⟩:=hcall
    cases hcall
    rfl
   ·rw [Option.map_eq_some_iff] at hcall
    obtain ⟨_,_,hcall⟩:=hcall
    cases hcall
    rfl
   ·cases hcall
  ·cases hcall
 ·exact hnoc hnc
 ·exact hnoc rfl
end
end Go.Abs
