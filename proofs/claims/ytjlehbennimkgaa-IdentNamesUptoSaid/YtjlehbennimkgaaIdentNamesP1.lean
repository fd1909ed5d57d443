/- The abstract machine and its soundness. -/
import Derived.ChangeKeysEq
import Derived.Lib.OthersKept
import Derived.MapKept
import Derived.Test.YtjlehbennimkgaaIdentNamesP0
set_option linter.unusedVariables false
set_option linter.unusedSimpArgs false
/- append. -/
namespace Go.Abs
open Go

section
variable {P:Program} {F:Nat→FuncId} {B np:Nat} {w0 w w':World} {ext:List Nat} {σ0:Og} {G G':Gh} {hp:Nat→Option (Bool×List D)} {tk tk':Nat→Option (Nat×Nat)}

structure Src (P:Program) (w:World) (σ:Sg) (z k:Nat) (x:Value) (h:Nat→List D) (news:List Value):Prop where
 len:news.length=k * z
 one:∀ v∈news,v.oneCell'=true
 run:∀ w2:World,w2.heap=w.heap→(Builtin.firstCells z k x).run P w2=.ok news.toArray w2
 lenOf:∀ w2:World,(Builtin.lenOf x).run P w2=.ok k w2
 el:∀ i,i < k→(h i).length=z
 rd:∀ i j,i < k→j < z→∃ v,news[i * z+j]? = some v∧Rp σ v (nth (h i) j .dead).pure1

theorem pE (m:Mem F B np w0 ext σ0 G hp tk w) {x:Value} {t:Tag} {z k:Nat} {h:Nat→List D} (hx:Rp G.σ x (.slice t z k h)):∃ news,Src P w G.σ z k x h news:=by
 cases hx with
 | slice a _ c _ _ _ b o val h1 h2 h3 h4 h5 =>
  have hlt:∀ i j,i < k→j < z→i * z+j < k * z:=by
   intro i j hi hj
   have:(i+1) * z≤k * z:=Nat.mul_le_mul_right _ hi
   rw [Nat.add_mul] at this
   omega
  have hdm:∀ q,q < k * z→∃ v,G.σ b (o+q)=some v:=by
   intro q hq
   have hz:0 < z:=by
    rcases Nat.eq_zero_or_pos z with h0 | h0
    ·subst h0; simp at hq
    ·exact h0
   have hi:q / z < k:=by rw [Nat.div_lt_iff_lt_mul hz]; exact hq
   have:=h4 (q / z) (q % z) hi (Nat.mod_lt _ hz)
   rw [show o+q / z * z+q % z=o+q from by rw [Nat.add_assoc,Nat.mul_comm,Nat.div_add_mod]] at this
   exact ⟨_,this⟩
  refine ⟨(List.range (k * z)).map fun q=>(G.σ b (o+q)).getD undef,by simp,fun v hv=>?_,fun w2 hw2=>?_,fun w2=>by simp [Builtin.lenOf],h3,fun i j hi hj=>?_⟩
  ·obtain ⟨q,hq,rfl⟩:=List.mem_map.1 hv
   obtain ⟨v,h6⟩:=hdm q (List.mem_range.1 hq)
   rw [h6]
   exact (m.stab b (o+q) v h6).1
  ·cases a with
   | none =>
    have:k=0:=by
     rcases Nat.eq_zero_or_pos k with h0 | h0
     ·exact h0
     ·cases h2 (by omega)
    subst this
    simp [Builtin.firstCells]
   | some ad =>
    by_cases hk:k=0
    ·subst hk
     simp [Builtin.firstCells,loadCells,loadCellsFrom]
    ·cases h2 hk
     have:=run_loadCells (P:=P) w2 ⟨b,o,none⟩ (k * z) (fun q=>(G.σ b (o+q)).getD undef) (fun q hq=>by
      obtain ⟨v,h6⟩:=hdm q hq
      rw [h6,cS]
      have h7:=m.cell h6
      simpa [World.cell?,hw2] using h7)
     simpa [Builtin.firstCells] using this
  ·have:=hlt i j hi hj
   refine ⟨val i j,?_,h5 i j hi hj⟩
   have h6:=h4 i j hi hj
   rw [Nat.add_assoc] at h6
   simp [this,h6]

theorem aFI (w:World) (σ:Sg) (s:ByteArray):∃ news,Src P w σ 1 s.size (.string s) (l8 s) news:=by
 refine ⟨(s.data.toList.map fun b=>Value.int .u8 b.toNat),by simp,fun v hv=>?_,fun w2 _=>?_,fun w2=>by simp [Builtin.lenOf],fun i _=>rfl,fun i j hi hj=>?_⟩
 ·obtain ⟨b,_,rfl⟩:=List.mem_map.1 hv
  rfl
 ·have h1:(s.extract 0 s.size).data=s.data:=by
   simp
  simp only [Builtin.firstCells,Sem.run_pure,h1]
  congr 1
  apply Array.ext'
  simp
 ·have:j=0:=by omega
  subst this
  have hi':i < s.data.toList.length:=by simpa using hi
  refine ⟨.int .u8 ((nth s.data.toList i 0).toNat:Int),?_,.int _ _⟩
  rw [cR _ _ hi']
  simp only [Nat.mul_one,Nat.add_zero,List.getElem?_map,List.getElem?_eq_getElem hi',Option.map_some]

theorem f8 {t u ty e:TypeId} {du:TypeDesc} {i:TypeInfo} (ht:P.underlying t=some (.slice e)) (hu:P.underlying u=some du) (hdu:jT du=true) (hi:P.info? e=some i) (base:Option Addr) (n c k:Nat) (x:Value) (news:List Value)
  (hl:∀ w2:World,(Builtin.lenOf x).run P w2=.ok k w2) (hf:(Builtin.firstCells i.size k x).run P w=.ok news.toArray w) (hfit:n+k≤c) :
  (Builtin.append_ #[t,u] ty #[.slice base n c,x]).run P w=((match base with | some a=>storeCells (a.add (n * i.size)) news | none=>pure ()).run P w).andThen fun _ w=>.ok (.slice base (n+k) c) w:=by
 have hso:∀ w:World,(sizeOf e).run P w=.ok i.size w:=fun w=>by simp [sizeOf,typeInfo,program,Sem.run,hi]
 have hkd:(∃ e',P.underlying u=some (.slice e'))∨P.underlying u=some .string:=by
  cases du <;> first | exact .inl ⟨_,hu⟩ | exact .inr hu | cases hdu
 cases base <;> (rcases hkd with ⟨e',hk⟩ | hk <;> simp [Builtin.append_,aZ ht,aZ hk,hso,hl,hfit,hf])

theorem oE {t u ty e:TypeId} {du:TypeDesc} {i:TypeInfo} {zv:Value} (ht:P.underlying t=some (.slice e)) (hu:P.underlying u=some du) (hdu:jT du=true) (hi:P.info? e=some i) (hz:i.zero=some zv) (hb:0 < i.bytes)
  (base:Option Addr) (n c k:Nat) (x:Value) (olds news:List Value) (hl:∀ w2:World,(Builtin.lenOf x).run P w2=.ok k w2) (hf:(Builtin.firstCells i.size k x).run P w.drew=.ok news.toArray w.drew)
  (hfo:(Builtin.firstCells i.size n (.slice base n c)).run P w.drew=.ok olds.toArray w.drew) (hgrow:c < n+k) (hroom:(n+k) * i.bytes≤140737488355328) :
  (Builtin.append_ #[t,u] ty #[.slice base n c,x]).run P w=.ok (.slice (some ⟨w.heap.size,0,none⟩) (n+k) (grownCap w (n+k) c e))
   (w.drew.alloc (.cells (olds.toArray++news.toArray++Builtin.zeroCells zv.cells (grownCap w (n+k) c e - (n+k))) e)):=by
 have hkd:(∃ e',P.underlying u=some (.slice e'))∨P.underlying u=some .string:=by
  cases du <;> first | exact .inl ⟨_,hu⟩ | exact .inr hu | cases hdu
 have hn:¬(n+k≤c):=by omega
 have h63':¬(9223372036854775807 < ((n:Int)+(k:Int))):=by
  have:=t6 hb hroom
  omega
 have h48:=growslice_fits hgrow hroom
 have h48':¬(281474976710656 < Builtin.nextslicecap (n+k) c * i.bytes):=by omega
 rcases hkd with ⟨e',hk⟩ | hk <;>
  (simp [Builtin.append_,aZ ht,aZ hk,sizeOf,typeInfo,zeroValue,hi,hz,hl,hn,h63',h48',Question.forced,hf,hfo,newRow,grownCap]
   congr 2
   apply Array.ext'
   simp [List.append_assoc])

theorem Rp.all {σ:Sg} {b o n c z:Nat} {t:Tag} {g:Nat→List D} (hnc:n≤c) (hz:∀ i,i < n→(g i).length=z)
  (h:∀ i j,i < n→j < z→∃ v,σ b (o+i * z+j)=some v∧Rp σ v (nth (g i) j .dead).pure1):Rp σ (.slice (some ⟨b,o,none⟩) n c) (.slice t z n g):=by
 refine .slice _ n c t z g b o (fun i j=>(σ b (o+i * z+j)).getD undef) hnc (fun _=>rfl) hz (fun i j hi hj=>?_) (fun i j hi hj=>?_)
 ·obtain ⟨v,h1,_⟩:=h i j hi hj
  rw [h1]
  rfl
 ·obtain ⟨v,h1,h2⟩:=h i j hi hj
  rw [h1]
  exact h2

theorem gJ {g h:Nat→List D} {n i:Nat} (hi:i < n):gD g n h i=g i:=by
 unfold gD
 have:Nat.blt i n=true:=by rw [Nat.blt_eq]; exact hi
 rw [this]
 rfl

theorem qS {g h:Nat→List D} {n i:Nat} (hi:n≤i):gD g n h i=h (i - n):=by
 unfold gD
 have:Nat.blt i n=false:=by
  cases hh:Nat.blt i n with
  | false=>rfl
  | true=>rw [Nat.blt_eq] at hh; omega
 rw [this]
 rfl

theorem aB3 {σ σ':Sg} {b z n k:Nat} {g h:Nat→List D} (hle:SgLe σ σ') (hold:∀ i j,i < n→j < z→∃ v,σ' b (i * z+j)=some v∧Rp σ v (nth (g i) j .dead).pure1)
  (hnew:∀ i j,i < k→j < z→∃ v,σ' b (n * z+(i * z+j))=some v∧Rp σ v (nth (h i) j .dead).pure1) :
  ∀ i j,i < n+k→j < z→∃ v,σ' b (0+i * z+j)=some v∧Rp σ' v (nth (gD g n h i) j .dead).pure1:=by
 intro i j hi hj
 rcases Nat.lt_or_ge i n with h1 | h1
 ·obtain ⟨v,h2,h3⟩:=hold i j h1 hj
  rw [gJ h1,Nat.zero_add]
  exact ⟨v,h2,h3.mono hle⟩
 ·obtain ⟨v,h2,h3⟩:=hnew (i - n) j (by omega) hj
  rw [qS h1,Nat.zero_add]
  refine ⟨v,?_,h3.mono hle⟩
  rw [← h2,← Nat.add_assoc,← Nat.add_mul,show n+(i - n)=i from by omega]

theorem yZ {g h:Nat→List D} {n k z:Nat} (h1:∀ i,i < n→(g i).length=z) (h2:∀ i,i < k→(h i).length=z):∀ i,i < n+k→(gD g n h i).length=z:=by
 intro i hi
 rcases Nat.lt_or_ge i n with h3 | h3
 ·rw [gJ h3]; exact h1 i h3
 ·rw [qS h3]; exact h2 _ (by omega)

theorem y2 (m:Mem F B np w0 ext σ0 G hp tk w) {y:Value} {tg:Tag} {n k:Nat} {g h:Nat→List D} {i:TypeInfo} {zv:Value} {t u ty e:TypeId} {du:TypeDesc} {news:List Value} (ht:P.underlying t=some (.slice e)) (hu:P.underlying u=some du) (hdu:jT du=true)
  (hi:P.info? e=some i) (hz:i.zero=some zv) (hb:0 < i.bytes) (hzs:zv.cells.size=i.size) (base:Option Addr) (c:Nat) (hx:Rp G.σ (.slice base n c) (.slice tg i.size n g)) (hy:Src P w G.σ i.size k y h news)
  (hgrow:c < n+k) (hroom:(n+k) * i.bytes≤140737488355328) (q:Nat)
  (hcl:∀ id' f cs',hp id'=some (f,cs')→∀ j,j < cs'.length→(∃ z' m' g,nth cs' j .dead=.slice (.own q) z' m' g)→∃ z0 m0,tk q=some (z0,m0)∧m0 < n+k) :
  ∃ w' v' G',(Builtin.append_ #[t,u] ty #[.slice base n c,y]).run P w=.ok v' w'∧Mem F B np w0 ext σ0 G' hp (fun j=>bif Nat.beq j q then some (i.size,n+k) else tk j) w' ∧
   Rp G'.σ v' (.slice (.own q) i.size (n+k) (gD g n h))∧SgLe G.σ G'.σ∧G'.β=G.β∧G'.η=G.η∧G'.ρ=fun j=>if j=q then v' else G.ρ j:=by
 obtain ⟨olds,hold⟩:=pE (P:=P) m hx
 have hrun:=oE (ty:=ty) ht hu hdu hi hz hb base n c k y olds news hy.lenOf (hy.run w.drew rfl) (hold.run w.drew rfl) hgrow hroom
 have hcap:=grownCap_ge w (n+k) c e
 generalize grownCap w (n+k) c e=cap at hrun hcap
 obtain ⟨cells,hcells⟩:∃ cells,cells=olds.toArray++news.toArray++Builtin.zeroCells zv.cells (cap - (n+k)):=⟨_,rfl⟩
 rw [← hcells] at hrun
 have hsz:cells.size=cap * i.size:=by
  rw [hcells]
  simp only [Array.size_append,List.size_toArray,size_zeroCells,hold.len,hy.len,hzs,← Nat.add_mul]
  congr 1
  omega
 have holen:olds.length=n * i.size:=hold.len
 have hnlen:news.length=k * i.size:=hy.len
 have hmul:(n+k) * i.size=n * i.size+k * i.size:=Nat.add_mul _ _ _
 have hg1:∀ o,o < n * i.size→cells[o]? = olds[o]?:=by
  intro o ho
  rw [hcells,Array.append_assoc,Array.getElem?_append,if_pos (by simp; omega)]
  simp
 have hg2:∀ o,o < k * i.size→cells[n * i.size+o]? = news[o]?:=by
  intro o ho
  rw [hcells,Array.append_assoc,Array.getElem?_append,if_neg (by simp; omega),Array.getElem?_append,if_pos (by simp; omega)]
  simp [holen]
 have md:Mem F B np w0 ext σ0 G hp tk w.drew:=⟨m.stab,m.old,m.os,m.tape,m.output,m.base,m.keep,m.vars,m.rows,m.froz,m.toks,m.own1,m.own2⟩
 obtain ⟨σ',m',hle,h4,h5⟩:=md.newStable cells e (0,0) ((n+k) * i.size) (fun o ho=>by
  rcases Nat.lt_or_ge o (n * i.size) with h6 | h6
  ·have h7:o < olds.length:=by omega
   exact ⟨olds[o],by rw [hg1 o h6]; exact List.getElem?_eq_getElem h7,hold.one _ (List.getElem_mem h7)⟩
  ·have h7:o - n * i.size < news.length:=by omega
   refine ⟨news[o - n * i.size],?_,hy.one _ (List.getElem_mem h7)⟩
   have:=hg2 (o - n * i.size) (by omega)
   rw [show n * i.size+(o - n * i.size)=o from by omega] at this
   rw [this]
   exact List.getElem?_eq_getElem h7)
 change ∀ o,o < (n+k) * i.size→σ' w.heap.size o=cells[o]? at h4
 have m2:=m'.addTok q i.size (n+k) cap (some ⟨w.heap.size,0,none⟩) hcap (fun hlt=>⟨w.heap.size,cells,e,rfl,heap_alloc_new w.drew _,hsz,h5,fun k' hk hown=>by
  have:=m.own_lt (k:=k') (b:=w.heap.size) (by cases k' <;> exact hown)
  omega,m.base⟩) (fun id' f cs' h6 j hj h7=>by
   obtain ⟨z0,m0,h8,h9⟩:=hcl id' f cs' h6 j hj h7
   exact ⟨z0,m0,h8,by omega,fun h10=>by omega⟩)
 have hlt:∀ i' j n':Nat,i' < n'→j < i.size→i' * i.size+j < n' * i.size:=by
  intro i' j n' h1 h2
  have:(i'+1) * i.size≤n' * i.size:=Nat.mul_le_mul_right _ h1
  rw [Nat.add_mul] at this
  omega
 refine ⟨_,_,_,hrun,m2,?_,hle,rfl,rfl,rfl⟩
 refine Rp.all hcap (yZ hold.el hy.el) (aB3 hle (fun i' j h1 h2=>?_) (fun i' j h1 h2=>?_))
 ·obtain ⟨v,h6,h7⟩:=hold.rd i' j h1 h2
  have:=hlt i' j n h1 h2
  refine ⟨v,?_,h7⟩
  show σ' w.heap.size _=_
  rw [h4 _ (by omega),hg1 _ this,h6]
 ·obtain ⟨v,h6,h7⟩:=hy.rd i' j h1 h2
  have:=hlt i' j k h1 h2
  refine ⟨v,?_,h7⟩
  show σ' w.heap.size _=_
  rw [h4 _ (by omega),hg2 _ this,h6]

theorem aDG {tk:Nat→Option (Nat×Nat)} {i:Nat} {e:Nat×Nat} (h:tk i=some e):(fun j=>bif Nat.beq j i then some e else tk j)=tk:=by
 funext j
 cases hj:Nat.beq j i with
 | false=>rfl
 | true=>rw [Nat.eq_of_beq_eq_true hj,h]; rfl

theorem xX (m:Mem F B np w0 ext σ0 G hp tk w) {x y:Value} {tg:Tag} {z' n k:Nat} {g h:Nat→List D} {i:TypeInfo} {zv:Value} {t u ty e:TypeId} {du:TypeDesc} {news:List Value} (ht:P.underlying t=some (.slice e)) (hu:P.underlying u=some du) (hdu:jT du=true)
  (hi:P.info? e=some i) (hz:i.zero=some zv) (hb:0 < i.bytes) (hzs:zv.cells.size=i.size) (hx:Rd F G tk x (.slice tg z' n g)) (hy:Src P w G.σ i.size k y h news) {id nn:Nat} (hn:0 < nn) (fr:Free hp tk id (id+nn))
  {v:D} {u':Upd} (hh:(cU id i.size i.bytes tk tg z' n g k h).holds v u') :
  Does F B np w0 ext σ0 G hp tk (((Builtin.append_ #[t,u] ty #[x,y]).run P w).andThen fun v w=>.ok (.value v) w) id nn v u':=by
 unfold cU at hh
 cases hzz:Nat.beq z' i.size with
 | false=>rw [hzz] at hh; exact (aB hh).elim
 | true =>
 rw [hzz] at hh
 have:=Nat.eq_of_beq_eq_true hzz
 subst this
 simp only [Bool.not_true,cond_false] at hh
 obtain ⟨hxp,hxt⟩:=hx.slice_inv
 obtain ⟨base,c,rfl⟩:∃ base c,x=.slice base n c:=by cases hxp; exact ⟨_,_,rfl⟩
 have hnc:n≤c:=by cases hxp; assumption
 have tagOwn:∀ (G':Gh) (tk':Nat→Option (Nat×Nat)) (q m':Nat) (v':Value),tk' q=some (i.size,m')→G'.ρ q=v'→TagR G' tk' v' (.slice (.own q) i.size m' (gD g n h)):=by
  intro G' tk' q m' v' h1 h2 z2 m2 h3
  rw [h1] at h3
  cases h3
  exact ⟨Nat.le_refl _,fun _=>h2.symm⟩
 cases tg with
 | ro=>exact (aB hh).elim
 | full =>
  obtain ⟨hroom,rfl,rfl⟩:=a8 hh
  obtain ⟨a,ha⟩:=hxt
  cases ha
  by_cases hk:k=0
  ·subst hk
   have hnews:news=[]:=by have:=hy.len; simpa using this
   subst hnews
   have hrun:=f8 (ty:=ty) ht hu hdu hi base n n 0 y [] hy.lenOf (hy.run w rfl) (Nat.le_refl _)
   have m2:=m.addTok id i.size n n base (Nat.le_refl _) (fun h=>by omega) (fun id' f cs' h6 j hj h7=>by
    obtain ⟨_,_,_,hF⟩:=fr.nohp ⟨Nat.le_refl _,by omega⟩ id' f cs' h6 j hj h7
    exact hF.elim)
   refine ⟨w,.value (.slice base n n),_,_,?_,.inl rfl,m2,.any (.cell (.pure ?_ (tagOwn _ _ _ _ _ (by simp [cG]) (by simp)))),o5 ⟨Nat.le_refl _,by omega⟩ (SgLe.refl _) _ _⟩
   ·rw [hrun]
    cases base <;> simp [storeCells]
   ·cases hxp with
    | slice _ _ _ _ _ _ b o val h1 h2 h3 h4 h5 =>
     exact .slice _ n n _ i.size _ b o val h1 h2 (fun i' hi'=>by rw [gJ hi']; exact h3 i' hi') h4 (fun i' j hi' hj=>by rw [gJ hi']; exact h5 i' j hi' hj)
  ·obtain ⟨w',v',G',h1,h2,h3,h4,h5,hη,h6⟩:=y2 (ty:=ty) m ht hu hdu hi hz hb hzs base n hxp hy (by omega) hroom id (fun id' f cs' h6 j hj h7=>by
    obtain ⟨_,_,_,hF⟩:=fr.nohp ⟨Nat.le_refl _,by omega⟩ id' f cs' h6 j hj h7
    exact hF.elim)
   refine ⟨w',.value v',v',G',by rw [h1]; rfl,.inl rfl,h2,.any (.cell (.pure h3 (tagOwn _ _ _ _ _ (by simp [cG]) (by rw [h6]; simp)))),?_⟩
   have:=o5 (G:=G) (tk:=tk) (lo:=id) (hi:=id+nn) (i:=id) ⟨Nat.le_refl _,by omega⟩ h4 v' (i.size,n+k)
   refine ⟨h4,fun j hj=>by rw [h5],fun j z m hj hz=>?_,fun _ _ _ _ e=>by rw [hη]; exact e⟩
   rw [h6]
   exact this.tok j z m hj hz
 | own q =>
  simp only at hh
  cases htk:tk q with
  | none=>rw [htk] at hh; exact (aB hh).elim
  | some en =>
   obtain ⟨z1,n1⟩:=en
   rw [htk] at hh
   simp only at hh
   cases hzz2:Nat.beq z1 i.size with
   | false=>rw [hzz2] at hh; exact (aB hh).elim
   | true =>
   rw [hzz2] at hh
   have:=Nat.eq_of_beq_eq_true hzz2
   subst this
   simp only [cond_true] at hh
   obtain ⟨⟨rfl,hroom⟩,rfl,rfl⟩:=a8 hh
   have hρ:G.ρ q=.slice base n1 c:=((hxt i.size n1 htk).2 rfl).symm
   have hqf:¬(id≤q∧q < id+nn):=fr.tk q _ htk
   rcases Nat.lt_or_ge c (n1+k) with hfit | hfit
   ·obtain ⟨w',v',G',h1,h2,h3,h4,h5,hη,h6⟩:=y2 (ty:=ty) m ht hu hdu hi hz hb hzs base c hxp hy hfit hroom q (fun id' f cs' h6 j hj h7=>⟨_,_,htk,by omega⟩)
    refine ⟨w',.value v',v',G',by rw [h1]; rfl,.inl rfl,h2,.any (.cell (.pure h3 (tagOwn _ _ _ _ _ (by simp [cG]) (by rw [h6]; simp)))),?_⟩
    refine ⟨h4,fun j hj=>by rw [h5],fun j z m hj hz=>?_,fun _ _ _ _ e=>by rw [hη]; exact e⟩
    rcases aX hz with ⟨rfl,hxx⟩ | ⟨h7,h8⟩
    ·cases hxx
     exact ⟨_,_,htk,by omega,fun h9=>by omega⟩
    ·refine ⟨z,m,h8,Nat.le_refl _,fun _=>?_⟩
     rw [h6]
     simp only
     rw [if_neg h7]
   ·by_cases hk:k=0
    ·subst hk
     have hnews:news=[]:=by have:=hy.len; simpa using this
     subst hnews
     have hrun:=f8 (ty:=ty) ht hu hdu hi base n1 c 0 y [] hy.lenOf (hy.run w rfl) (by omega)
     have hself:cG tk [(q,i.size,n1+0)]=tk:=aDG htk
     refine ⟨w,.value (.slice base n1 c),.slice base n1 c,G,?_,.inl rfl,?_,.any (.cell (.pure ?_ (tagOwn _ _ _ _ _ (by simp [cG]) hρ))),?_⟩
     ·rw [hrun]
      cases base <;> simp [storeCells]
     ·simp only [hself]
      exact m
     ·cases hxp with
      | slice _ _ _ _ _ _ b o val h1 h2 h3 h4 h5 =>
       exact .slice _ n1 c _ i.size _ b o val h1 h2 (fun i' hi'=>by rw [gJ hi']; exact h3 i' hi') h4 (fun i' j hi' hj=>by rw [gJ hi']; exact h5 i' j hi' hj)
     ·simp only [hself]
      exact Keeps.refl _ _ _ _
    ·obtain ⟨a0,c0,e0,hnc0,htail⟩:=m.toks q i.size n1 htk
     rw [hρ] at e0
     cases e0
     obtain ⟨b,cur,et,rfl,hb2,hcs,hσ⟩:=htail (by omega)
     have hmul:(n1+k) * i.size=n1 * i.size+k * i.size:=Nat.add_mul _ _ _
     have hle2:(n1+k) * i.size≤c * i.size:=Nat.mul_le_mul_right _ hfit
     have hnl:=hy.len
     have hrun:=f8 (ty:=ty) ht hu hdu hi (some ⟨b,0,none⟩) n1 c k y news hy.lenOf (hy.run w rfl) hfit
     simp only [cS,Nat.zero_add] at hrun
     have hst:=run_storeCells_at (P:=P) b (n1 * i.size) et news 0 cur w hb2 (by omega) hy.one
     simp only [Nat.add_zero] at hst
     obtain ⟨cur',hcur'⟩:∃ cur',cur'=(cur.toList.take (n1 * i.size)++news++cur.toList.drop (n1 * i.size+news.length)).toArray:=⟨_,rfl⟩
     rw [← hcur'] at hst
     have hcl:cur.toList.length=cur.size:=by simp
     have hsz:cur'.size=cur.size:=by
      rw [hcur']
      simp only [List.size_toArray,List.length_append,List.length_take,List.length_drop,hcl]
      omega
     have hg1:∀ o,o < n1 * i.size→cur'[o]? = cur[o]?:=by
      intro o ho
      rw [hcur']
      simp only [List.getElem?_toArray,List.append_assoc]
      rw [List.getElem?_append_left (by rw [List.length_take,hcl]; omega),List.getElem?_take_of_lt ho]
      simp
     have hg2:∀ o,o < k * i.size→cur'[n1 * i.size+o]? = news[o]?:=by
      intro o ho
      rw [hcur']
      simp only [List.getElem?_toArray,List.append_assoc]
      have h1:(cur.toList.take (n1 * i.size)).length=n1 * i.size:=by rw [List.length_take,hcl]; omega
      rw [List.getElem?_append_right (by omega),h1,show n1 * i.size+o - n1 * i.size=o from by omega,List.getElem?_append_left (by omega)]
     obtain ⟨m2,hle⟩:=m.growTok q i.size n1 k c b cur cur' et news htk hρ hfit (by omega) hb2 hcs (gH w b cur') (setRow_heap w b cur cur' et (0,0) hb2) hsz hnl hy.one hg1 hg2
     have hlt:∀ i' j n':Nat,i' < n'→j < i.size→i' * i.size+j < n' * i.size:=by
      intro i' j n' h1 h2
      have:(i'+1) * i.size≤n' * i.size:=Nat.mul_le_mul_right _ h1
      rw [Nat.add_mul] at this
      omega
     refine ⟨_,.value (.slice (some ⟨b,0,none⟩) (n1+k) c),_,_,?_,.inl rfl,m2,.any (.cell (.pure ?_ (tagOwn _ _ _ _ _ (by simp [cG]) (by simp)))),?_⟩
     ·rw [hrun,hst]
      rfl
     ·refine Rp.all hfit (yZ (by cases hxp; assumption) hy.el) (aB3 hle (fun i' j h1 h2=>?_) (fun i' j h1 h2=>?_))
      ·cases hxp with
       | slice _ _ _ _ _ _ b3 o3 val g1 g2 g3 g4 g5 =>
        have:=g2 (by omega)
        cases this
        refine ⟨val i' j,?_,g5 i' j h1 h2⟩
        have h6:=g4 i' j h1 h2
        rw [Nat.zero_add] at h6
        exact hle _ _ _ h6
      ·obtain ⟨v,h6,h7⟩:=hy.rd i' j h1 h2
       have:=hlt i' j k h1 h2
       refine ⟨v,?_,h7⟩
       simp only
       rw [if_pos ⟨trivial,by omega,by omega⟩,hg2 _ this,h6]
     ·refine ⟨hle,fun _ _=>rfl,fun j z m hj hz=>?_,fun _ _ _ _ e=>e⟩
      rcases aX hz with ⟨rfl,hxx⟩ | ⟨h7,h8⟩
      ·cases hxx
       exact ⟨_,_,htk,Nat.le_add_right _ _,fun h9=>absurd h9 (Nat.ne_of_lt (Nat.lt_add_of_pos_right (Nat.pos_of_ne_zero hk)))⟩
      ·exact ⟨z,m,h8,Nat.le_refl _,fun _=>by simp only; rw [if_neg h7]⟩

theorem aFB {σ:Sg} {a:Option Addr} {z n c:Nat} {g:Nat→List D} (hnc:n≤c) (hrow:∀ b,a=some ⟨b,0,none⟩→0 < c→∃ o,w.heap[b]? = some o∧RowO σ o z n c g) (hblk:0 < c→∃ b,a=some ⟨b,0,none⟩) :
  ∃ olds:List Value,olds.length=n * z∧(∀ w2:World,w2.heap=w.heap→(Builtin.firstCells z n (.slice a n c)).run P w2=.ok olds.toArray w2) ∧
   ∀ i,i < n→(g i).length=z∧∀ j,j < z→∃ v,olds[i * z+j]? = some v∧v.oneCell'=true∧Rp σ v (nth (g i) j .dead).pure1:=by
 by_cases hn:n=0
 ·subst hn
  refine ⟨[],by simp,fun w2 _=>?_,fun i hi=>by omega⟩
  cases a with
  | none=>simp [Builtin.firstCells]
  | some ad=>simp [Builtin.firstCells,loadCells,loadCellsFrom]
 ·obtain ⟨b,rfl⟩:=hblk (by omega)
  obtain ⟨o,h1,cur,e,rfl,h2,h3⟩:=hrow b rfl (by omega)
  have hnz:n * z≤c * z:=Nat.mul_le_mul_right _ hnc
  refine ⟨(List.range (n * z)).map fun q=>cur.getD q undef,by simp,fun w2 hw2=>?_,fun i hi=>⟨(h3 i hi).1,fun j hj=>?_⟩⟩
  ·have:=run_loadCells (P:=P) w2 ⟨b,0,none⟩ (n * z) (fun q=>cur.getD q undef) (fun q hq=>by
    rw [cS,cell_of_row w2 _ _ cur e _ (by rw [hw2]; exact h1)]
    have:q < cur.size:=by omega
    simp [this])
   simpa [Builtin.firstCells] using this
  ·have:(i+1) * z≤n * z:=Nat.mul_le_mul_right _ hi
   rw [Nat.add_mul] at this
   have hlt:i * z+j < n * z:=by omega
   exact ⟨_,by simp [hlt],((h3 i hi).2 j hj).1,((h3 i hi).2 j hj).2⟩

theorem aF8 (m:Mem F B np w0 ext σ0 G hp tk w) {x y:Value} {r n k:Nat} {h:Nat→List D} {i:TypeInfo} {zv:Value} {t u ty e:TypeId} {du:TypeDesc} {news:List Value} (ht:P.underlying t=some (.slice e)) (hu:P.underlying u=some du) (hdu:jT du=true)
  (hi:P.info? e=some i) (hz:i.zero=some zv) (hb:0 < i.bytes) (hzs:zv.cells.size=i.size) (hx:Rd F G tk x (.msl r i.size n)) (hy:Src P w G.σ i.size k y h news) {id nn:Nat}
  {v:D} {u':Upd} (hh:(pK r i.size n k i.bytes h (hp r)).holds v u') :
  Does F B np w0 ext σ0 G hp tk (((Builtin.append_ #[t,u] ty #[x,y]).run P w).andThen fun v w=>.ok (.value v) w) id nn v u':=by
 unfold pK at hh
 split at hh
 ·rename_i z1 n1 g hr
  cases hzz:Nat.beq z1 i.size with
  | false=>rw [hzz] at hh; exact (aB hh).elim
  | true =>
  rw [hzz] at hh
  obtain ⟨⟨rfl,hroom⟩,rfl,rfl⟩:=a8 hh
  have:=Nat.eq_of_beq_eq_true hzz
  subst this
  obtain ⟨a,c,rfl,hη,hnc,ha⟩:=hx.msl_inv
  obtain ⟨a1,c1,hd,hrow⟩:=m.rows r true i.size n1 g hr
  have h1:=hd.at_
  rw [hη] at h1
  cases h1
  have hmine:r < np→n1+k=n1:=fun hlt=>by
   have:=(hd.mine hlt).1
   cases this
  have hlt:∀ i' j n':Nat,i' < n'→j < i.size→i' * i.size+j < n' * i.size:=by
   intro i' j n' h1 h2
   have:(i'+1) * i.size≤n' * i.size:=Nat.mul_le_mul_right _ h1
   rw [Nat.add_mul] at this
   omega
  have hmul:(n1+k) * i.size=n1 * i.size+k * i.size:=Nat.add_mul _ _ _
  have hnl:=hy.len
  have hyone:∀ p,p < k * i.size→∃ v,news[p]? = some v∧v.oneCell'=true:=fun p hp=>by
   have:p < news.length:=by omega
   exact ⟨news[p],List.getElem?_eq_getElem this,hy.one _ (List.getElem_mem this)⟩
  obtain ⟨olds,hol,hold,hoe⟩:=aFB (P:=P) (w:=w) hnc (fun b hb hc=>(hrow b hb hc).2) hd.blk
  -- the elements of the new block
  have rowOf:∀ (cells:Array Value) (cap:Nat) (et:TypeId),cells.size=cap * i.size→(∀ p,p < n1 * i.size→cells[p]? = olds[p]?)→(∀ p,p < k * i.size→cells[n1 * i.size+p]? = news[p]?)→RowO G.σ (.cells cells et (0,0)) i.size (n1+k) cap (gD g n1 h):=by
   intro cells cap et h1 h2 h3
   refine ⟨cells,et,rfl,h1,fun p hp=>?_⟩
   by_cases hpn:p < n1
   ·rw [gJ hpn]
    refine ⟨(hoe p hpn).1,fun j hj=>?_⟩
    obtain ⟨v,e1,e2,e3⟩:=(hoe p hpn).2 j hj
    have e4:=h2 (p * i.size+j) (hlt p j n1 hpn hj)
    rw [e1] at e4
    have e5:cells.getD (p * i.size+j) undef=v:=by simp [Array.getD_eq_getD_getElem?,e4]
    rw [e5]
    exact ⟨e2,e3⟩
   ·rw [qS (by omega)]
    refine ⟨hy.el _ (by omega),fun j hj=>?_⟩
    obtain ⟨v,e1,e2⟩:=hy.rd (p - n1) j (by omega) hj
    have e0:=hlt (p - n1) j k (by omega) hj
    have e4:=h3 ((p - n1) * i.size+j) e0
    have e6:n1 * i.size+((p - n1) * i.size+j)=p * i.size+j:=by
     rw [← Nat.add_assoc,← Nat.add_mul]
     congr 2
     omega
    rw [e6,e1] at e4
    have e5:cells.getD (p * i.size+j) undef=v:=by simp [Array.getD_eq_getD_getElem?,e4]
    rw [e5]
    refine ⟨?_,e2⟩
    have:=hy.one v (List.mem_of_getElem? e1)
    exact this
  rcases Nat.lt_or_ge c (n1+k) with hfit | hfit
  ·have hrun:=oE (ty:=ty) ht hu hdu hi hz hb a n1 c k y olds news hy.lenOf (hy.run w.drew rfl) (hold w.drew rfl) hfit hroom
   have hcap:=grownCap_ge w (n1+k) c e
   generalize grownCap w (n1+k) c e=cap at hrun hcap
   obtain ⟨cells,hcells⟩:∃ cells,cells=olds.toArray++news.toArray++Builtin.zeroCells zv.cells (cap - (n1+k)):=⟨_,rfl⟩
   rw [← hcells] at hrun
   have hsz:cells.size=cap * i.size:=by
    rw [hcells]
    simp only [Array.size_append,List.size_toArray,size_zeroCells,hol,hy.len,hzs,← Nat.add_mul]
    congr 1
    omega
   have hg1:∀ o,o < n1 * i.size→cells[o]? = olds[o]?:=by
    intro o ho
    rw [hcells,Array.append_assoc,Array.getElem?_append,if_pos (by simp; omega)]
    simp
   have hg2:∀ o,o < k * i.size→cells[n1 * i.size+o]? = news[o]?:=by
    intro o ho
    rw [hcells,Array.append_assoc,Array.getElem?_append,if_neg (by simp; omega),Array.getElem?_append,if_pos (by simp; omega)]
    simp [hol]
   obtain ⟨m2,k2⟩:=m.setArr (w':=w.drew.alloc (.cells cells e)) hr hη (z':=i.size) (n':=n1+k) (c':=cap) (a':=some ⟨w.heap.size,0,none⟩) (g':=gD g n1 h)
    rfl rfl rfl (by simp) (fun p hp _=>Go.heap_alloc_old w.drew _ (r:=p) hp) (Nat.le_add_right _ _) hcap (fun hk=>by omega) hmine
    (fun _=>⟨w.heap.size,rfl,.inr (Nat.le_refl _),_,heap_alloc_new w.drew _,rowOf cells cap e hsz hg1 hg2⟩) id (id+nn)
   refine ⟨_,.value _,_,_,by rw [hrun]; rfl,.inl rfl,m2,.msl r i.size (n1+k) _ cap (by simp) hcap (fun _=>⟨_,rfl⟩),k2⟩
  ·by_cases hk:k=0
   ·subst hk
    have hnews:news=[]:=by simpa using hnl
    subst hnews
    have hrun:=f8 (ty:=ty) ht hu hdu hi a n1 c 0 y [] hy.lenOf (hy.run w rfl) hfit
    obtain ⟨m2,k2⟩:=m.setArr (w':=w) hr hη (z':=i.size) (n':=n1+0) (c':=c) (a':=a) (g':=gD g n1 h)
     rfl rfl rfl (Nat.le_refl _) (fun p hp _=>rfl) (Nat.le_add_right _ _) hfit (fun hk=>⟨rfl,rfl⟩) hmine
     (fun hc=>by
      obtain ⟨b,hb⟩:=hd.blk hc
      obtain ⟨_,o,h1,cur,et,rfl,h2,h3⟩:=hrow b hb hc
      refine ⟨b,hb,.inl ⟨hc,hb⟩,_,h1,cur,et,rfl,h2,fun p hp=>?_⟩
      rw [gJ (by omega)]
      exact h3 p (by omega)) id (id+nn)
    refine ⟨w,.value (.slice a n1 c),.slice a n1 c,_,?_,.inl rfl,m2,.msl r i.size n1 a c (by simp [hη]) hnc ha,k2⟩
    rw [hrun]
    cases a <;> simp [storeCells]
   ·obtain ⟨b,rfl⟩:=hd.blk (by omega)
    obtain ⟨_,o,hb2,cur,et,rfl,hcs,he3⟩:=hrow b rfl (by omega)
    have hle2:(n1+k) * i.size≤c * i.size:=Nat.mul_le_mul_right _ hfit
    have hrun:=f8 (ty:=ty) ht hu hdu hi (some ⟨b,0,none⟩) n1 c k y news hy.lenOf (hy.run w rfl) hfit
    simp only [cS,Nat.zero_add] at hrun
    have hst:=run_storeCells_at (P:=P) b (n1 * i.size) et news 0 cur w hb2 (by omega) hy.one
    simp only [Nat.add_zero] at hst
    have hsz:=lA cur (n1 * i.size) news (by omega)
    have hget:=mD cur (n1 * i.size) news (by omega)
    generalize (cur.toList.take (n1 * i.size)++news++cur.toList.drop (n1 * i.size+news.length)).toArray=cur' at hst hsz hget
    have hw:=gH w b cur'
    obtain ⟨m2,k2⟩:=m.setArr (w':=w.setRow b cur') hr hη (z':=i.size) (n':=n1+k) (c':=c) (a':=some ⟨b,0,none⟩) (g':=gD g n1 h)
     hw.os hw.tape hw.output (Nat.le_of_eq hw.size.symm) (fun p _ hp=>hw.other p (hp b rfl (by omega))) (Nat.le_add_right _ _) hfit (fun hk=>⟨rfl,rfl⟩) hmine
     (fun hcp=>⟨b,rfl,.inl ⟨hcp,rfl⟩,_,setRow_heap w b cur cur' et _ hb2,cur',et,rfl,by rw [hsz]; exact hcs,fun p hp=>by
      by_cases hpn:p < n1
      ·rw [gJ hpn]
       refine ⟨(he3 p hpn).1,fun j hj=>?_⟩
       have:=hlt p j n1 hpn hj
       rw [hget,if_neg (by omega)]
       exact (he3 p hpn).2 j hj
      ·rw [qS (by omega)]
       refine ⟨hy.el _ (by omega),fun j hj=>?_⟩
       obtain ⟨v,e1,e2⟩:=hy.rd (p - n1) j (by omega) hj
       have e0:=hlt (p - n1) j k (by omega) hj
       have e6:n1 * i.size+((p - n1) * i.size+j)=p * i.size+j:=by
        rw [← Nat.add_assoc,← Nat.add_mul]
        congr 2
        omega
       rw [hget,if_pos (by omega),show p * i.size+j - n1 * i.size=(p - n1) * i.size+j from by omega]
       have e5:news.getD ((p - n1) * i.size+j) undef=v:=by rw [List.getD_eq_getElem?_getD,e1]; rfl
       rw [e5]
       exact ⟨hy.one v (List.mem_of_getElem? e1),e2⟩⟩) id (id+nn)
    refine ⟨_,.value (.slice (some ⟨b,0,none⟩) (n1+k) c),_,_,?_,.inl rfl,m2,.msl r i.size (n1+k) _ c (by simp) hfit (fun _=>⟨_,rfl⟩),k2⟩
    rw [hrun,hst]
    rfl
 ·exact (aB hh).elim

theorem yX (m:Mem F B np w0 ext σ0 G hp tk w) {x y:Value} {d d':D} {i:TypeInfo} {zv:Value} {ds:List D} {t u ty e:TypeId} {du:TypeDesc} (ht:P.underlying t=some (.slice e)) (hu:P.underlying u=some du) (hdu:jT du=true)
  (hi:P.info? e=some i) (hz:i.zero=some zv) (hds:cL zv.cells.toList=some ds) (hb:0 < i.bytes) (hlen:ds.length=i.size) (hx:Rd F G tk x d) (hy:Rd F G tk y d') {id nn:Nat} (hn:0 < nn) (fr:Free hp tk id (id+nn))
  {v:D} {u':Upd} (hh:(aQ (.append i.size i.bytes) id hp tk [d,d']).holds v u') :
  Does F B np w0 ext σ0 G hp tk (((Builtin.append_ #[t,u] ty #[x,y]).run P w).andThen fun v w=>.ok (.value v) w) id nn v u':=by
 have hzs:zv.cells.size=i.size:=by have:=eU hds; simp at this; omega
 cases d with
 | slice tg z n g =>
  cases d' with
  | slice t' z' k h =>
   simp only [aQ] at hh
   cases hzz:Nat.beq z' i.size with
   | false=>rw [hzz] at hh; exact (aB hh).elim
   | true =>
    rw [hzz] at hh
    have:=Nat.eq_of_beq_eq_true hzz
    subst this
    obtain ⟨news,hs⟩:=pE (P:=P) m hy.slice_inv.1
    exact xX m ht hu hdu hi hz hb hzs hx hs hn fr hh
  | str b =>
   simp only [aQ] at hh
   cases hzz:Nat.beq i.size 1 with
   | false=>rw [hzz] at hh; exact (aB hh).elim
   | true =>
    rw [hzz] at hh
    have h1:=Nat.eq_of_beq_eq_true hzz
    have:=hy.str_inv
    subst this
    obtain ⟨news,hs⟩:=aFI (P:=P) w G.σ b
    rw [← h1] at hs
    exact xX m ht hu hdu hi hz hb hzs hx hs hn fr hh
  | _=>exact (aB hh).elim
 | msl r z n =>
  cases d' with
  | slice t' z' k h =>
   simp only [aQ] at hh
   cases hzz:(Nat.ble 1000000 id&&Nat.beq z i.size&&Nat.beq z' i.size) with
   | false=>rw [hzz] at hh; exact (aB hh).elim
   | true =>
    rw [hzz] at hh
    obtain ⟨q1,q2⟩:=gK hzz
    obtain ⟨_,q3⟩:=gK q1
    have:=Nat.eq_of_beq_eq_true q2
    subst this
    have:=Nat.eq_of_beq_eq_true q3
    subst this
    obtain ⟨news,hs⟩:=pE (P:=P) m hy.slice_inv.1
    exact aF8 m ht hu hdu hi hz hb hzs hx hs hh
  | _=>exact (aB hh).elim
 | _=>exact (aB hh).elim

end
end Go.Abs

/- Literals of structs,arrays and slices; structs and arrays compared. -/
namespace Go.Abs
open Go

section
variable {P:Program} {F:Nat→FuncId} {B np:Nat} {w0 w w':World} {ext:List Nat} {σ0:Og} {G G':Gh} {hp:Nat→Option (Bool×List D)} {tk tk':Nat→Option (Nat×Nat)}

inductive jY (F:Nat→FuncId) (G:Gh) (tk:Nat→Option (Nat×Nat)) (place:Nat→Option (Nat×Nat)):List (Nat×Value)→List (Nat×Nat)→List D→Prop
 | nil:jY F G tk place [] [] []
 | cons {i:Nat} {v:Value} {q:Nat×Nat} {d:D} {ps:List (Nat×Value)} {qs:List (Nat×Nat)} {ds:List D}:place i=some q→Rd F G tk v d→jY F G tk place ps qs ds→jY F G tk place ((i,v)::ps) (q::qs) (d::ds)

theorem aBT (off:Nat):∀ (l:List Value) (s:Nat) (cells:Array Value),((l.zipIdx s).foldl (fun cs p=>cs.setIfInBounds (off+p.2) p.1) cells).size=cells.size ∧
  ∀ k,((l.zipIdx s).foldl (fun cs p=>cs.setIfInBounds (off+p.2) p.1) cells).getD k undef=if off+s≤k∧k < off+s+l.length∧k < cells.size then l.getD (k - (off+s)) undef else cells.getD k undef
 | [],s,cells=>by
  refine ⟨rfl,fun k=>?_⟩
  rw [if_neg (by simp; omega)]
  rfl
 | v::l,s,cells=>by
  obtain ⟨h1,h2⟩:=aBT off l (s+1) (cells.setIfInBounds (off+s) v)
  simp only [List.zipIdx_cons,List.foldl_cons]
  refine ⟨by rw [h1]; simp,fun k=>?_⟩
  rw [h2 k]
  simp only [Array.size_setIfInBounds,List.length_cons]
  by_cases hc:off+(s+1)≤k∧k < off+(s+1)+l.length∧k < cells.size
  ·rw [if_pos hc,if_pos (by omega),show k - (off+s)=(k - (off+(s+1)))+1 from by omega]
   rfl
  ·rw [if_neg hc]
   by_cases hk:k=off+s
   ·subst hk
    by_cases hlt:off+s < cells.size
    ·rw [if_pos (by omega)]
     simp [Array.getD_eq_getD_getElem?,hlt]
    ·rw [if_neg (by omega)]
     simp [Array.getD_eq_getD_getElem?,hlt]
   ·rw [if_neg (by omega)]
    have:(cells.setIfInBounds (off+s) v).getD k undef=cells.getD k undef:=by
     simp [Array.getD_eq_getD_getElem?,Array.getElem?_setIfInBounds_ne (Ne.symm hk)]
    rw [this]

theorem rQ {place:Nat→Option (Nat×Nat)} {ps:List (Nat×Value)} {qs:List (Nat×Nat)} {xs:List D} (h:jY F G tk place ps qs xs):∀ (cells:Array Value) (ds l:List D),fill ds qs xs=some l→cells.size=ds.length →
  (∀ j,j < ds.length→Rc F G tk (cells.getD j undef) (nth ds j .dead))→∃ cells',Instr.fill place cells ps=some cells'∧cells'.size=l.length∧l.length=ds.length∧∀ j,j < l.length→Rc F G tk (cells'.getD j undef) (nth l j .dead):=by
 induction h with
 | nil =>
  intro cells ds l hf hs hr
  cases hf
  exact ⟨cells,rfl,hs,rfl,hr⟩
 | @cons i v q d ps qs ds' hp hd _ ih =>
  intro cells ds l hf hs hr
  obtain ⟨off,size⟩:=q
  simp only [fill] at hf
  cases hb:(aG d.cells&&Nat.beq d.cells.length size&&Nat.ble (off+size) ds.length) with
  | false=>rw [hb] at hf; cases hf
  | true =>
   rw [hb] at hf
   simp only [cond_true] at hf
   simp only [Bool.and_eq_true] at hb
   obtain ⟨⟨hsol,hlen⟩,hle⟩:=hb
   have hlen:=Nat.eq_of_beq_eq_true hlen
   have hle:=Nat.le_of_ble_eq_true hle
   obtain ⟨hvs,hvr⟩:=hd.cells hsol
   have hfold:=aBT off v.cells.toList 0 cells
   have hconv:v.cells.zipIdx.foldl (fun cs (x:Value×Nat)=>cs.setIfInBounds (off+x.2) x.1) cells=((v.cells.toList.zipIdx 0).foldl (fun cs p=>cs.setIfInBounds (off+p.2) p.1) cells):=by
    rw [← Array.foldl_toList,Array.toList_zipIdx]
   obtain ⟨cells',h1,h2,h3,h4⟩:=ih (v.cells.zipIdx.foldl (fun cs (x:Value×Nat)=>cs.setIfInBounds (off+x.2) x.1) cells) (c9 ds off d.cells) l hf (by rw [hconv,hfold.1,dA,hs]) (fun j hj=>by
    rw [dA] at hj
    rw [hconv,hfold.2 j,jN]
    have hvl:v.cells.toList.length=d.cells.length:=by simpa using hvs
    simp only [Nat.add_zero,hvl]
    by_cases hc:off≤j∧j < off+d.cells.length∧j < ds.length
    ·rw [if_pos hc,if_pos ⟨hc.1,hc.2.1,by omega⟩,← bA]
     exact hvr _ (by omega)
    ·rw [if_neg hc,if_neg (by omega)]
     exact hr j hj)
   refine ⟨cells',?_,h2,by rw [h3,dA],h4⟩
   have hg:¬(v.cells.size≠size∨off+v.cells.size > cells.size):=by omega
   simp only [Instr.fill,hp]
   rw [if_neg (by simpa using hg)]
   exact h1

theorem aE8 (n:Nat) (z:List D) (j:Nat) (hz:0 < z.length) (hj:j < n * z.length):nth (rep n z) j .dead=nth z (j % z.length) .dead:=by
 induction n generalizing j with
 | zero=>omega
 | succ n ih =>
  simp only [rep,hT]
  rw [Nat.add_mul,Nat.one_mul] at hj
  split
  ·rename_i h
   rw [Nat.mod_eq_of_lt h]
  ·rename_i h
   rw [ih _ (by omega)]
   congr 1
   exact (Nat.mod_eq_sub_mod (by omega)).symm

theorem mK (n:Nat) (z:List D):(rep n z).length=n * z.length:=by
 induction n with
 | zero=>simp [rep]
 | succ n ih=>simp [rep,ih,Nat.add_mul,Nat.add_comm]

theorem sW (m:Mem F B np w0 ext σ0 G hp tk w) {t:TypeId} {i:TypeInfo} {zv:Value} {zs:List D} {place:Nat→Option (Nat×Nat)} (ps:Array (Nat×Value)) (qs:List (Nat×Nat)) (xs:List D) (hi:P.info? t=some i) (hz:i.zero=some zv)
  (hds:cL zv.cells.toList=some zs) (hb:∀ cells,Instr.fill place zv.cells ps.toList=some cells→P.built t ps.toList=some cells) (hp':jY F G tk place ps.toList qs xs) {id nn:Nat} {v:D} {u:Upd}
  {nz:List Nat} (hh:(aQ (.build (eE zs nz) qs) id hp tk xs).holds v u):Does F B np w0 ext σ0 G hp tk (((Instr.build t ps).run P w).andThen fun v w=>.ok (.value v) w) id nn v u:=by
 have hh':(match fill (eE zs nz) qs xs with | some l=>Out.val (.agg (ros l)) | none=>.bad).holds v u:=by
  cases xs <;> exact hh
 cases hf:fill (eE zs nz) qs xs with
 | none=>rw [hf] at hh'; exact (aB hh').elim
 | some l =>
  rw [hf] at hh'
  obtain ⟨rfl,rfl⟩:=aD hh'
  have hl:=eU hds
  obtain ⟨cells,h1,h2,h3,h4⟩:=rQ hp' zv.cells (eE zs nz) l hf (by rw [cM]; simpa using hl) (fun j hj=>by
   rw [bA]
   exact m8 (dK hds).2 nz j hj)
  refine Does.val m ?_ (by rw [run_build w t ps cells (hb _ h1)]; rfl) id nn
  refine .any (.agg cells (ros l) (by rw [h2,rG]) fun j hj=>?_)
  rw [rG] at hj
  rw [aFR]
  exact (h4 j hj).ro1

theorem qJ (m:Mem F B np w0 ext σ0 G hp tk w) {t e:TypeId} {i:TypeInfo} {zv:Value} {zs:List D} {len:Nat} (ps:Array (Nat×Value)) (qs:List (Nat×Nat)) (xs:List D) (hu:P.underlying t=some (.slice e)) (hi:P.info? e=some i)
  (hz:i.zero=some zv) (hds:cL zv.cells.toList=some zs) (hsz:0 < i.size) (hsmall:len * i.size≤16777216) (hp':jY F G tk (fun k=>some (k * i.size,i.size)) ps.toList qs xs) {id nn:Nat} {v:D} {u:Upd}
  {nz:List Nat} (hh:(aQ (.buildSlice i.size len (eE zs nz) qs) id hp tk xs).holds v u):Does F B np w0 ext σ0 G hp tk (((Instr.buildSlice t len ps).run P w).andThen fun v w=>.ok (.value v) w) id nn v u:=by
 have hzl0:=cM zs nz
 have hrc0:=m8 (F:=F) (G:=G) (tk:=tk) (dK hds).2 nz
 have hl:zv.cells.toList.length=(eE zs nz).length:=by rw [hzl0]; exact eU hds
 generalize eE zs nz=zs at *
 have hh':(match fill (rep len zs) qs xs with | some l=>bif Nat.beq zs.length i.size&&aG l then Out.val (.slice .full i.size len (bif Nat.beq len 1 then fun _=>aI l else fun j=>((aI l).drop (j * i.size)).take i.size)) else .bad | none=>.bad).holds v u:=by
  cases xs <;> exact hh
 cases hf:fill (rep len zs) qs xs with
 | none=>rw [hf] at hh'; exact (aB hh').elim
 | some l =>
  rw [hf] at hh'
  simp only at hh'
  cases hb:(Nat.beq zs.length i.size&&aG l) with
  | false=>rw [hb] at hh'; exact (aB hh').elim
  | true =>
   rw [hb] at hh'
   simp only [Bool.and_eq_true] at hb
   obtain ⟨hzl,hsol⟩:=hb
   have hzl:=Nat.eq_of_beq_eq_true hzl
   obtain ⟨rfl,rfl⟩:=aD hh'
   have hl2:zv.cells.size=i.size:=by simp at hl; omega
   obtain ⟨c0,hc0⟩:∃ c0,c0=(Array.range (len * i.size)).map (zv.cells[· % zv.cells.size]!):=⟨_,rfl⟩
   have hc0s:c0.size=len * i.size:=by rw [hc0]; simp
   obtain ⟨cells,h1,h2,h3,h4⟩:=rQ hp' c0 (rep len zs) l hf (by rw [mK,hc0s,hzl]) (fun j hj=>by
    rw [mK,hzl] at hj
    rw [aE8 _ _ _ (by omega) (by rw [hzl]; exact hj),hzl]
    have hm:j % i.size < zv.cells.size:=by rw [hl2]; exact Nat.mod_lt _ hsz
    have:c0.getD j undef=zv.cells.toList.getD (j % i.size) undef:=by
     rw [hc0]
     simp [Array.getD_eq_getD_getElem?,hj,hl2,List.getD]
     rw [getElem!_pos zv.cells (j % i.size) hm]
     simp [hm]
    rw [this]
    exact hrc0 _ (by omega))
   rw [mK,hzl] at h3
   have hget:∀ o,o < len * i.size→cells[o]? = some (cells.getD o undef):=by
    intro o ho
    have:o < cells.size:=by omega
    simp [this]
   obtain ⟨σ',m',hle,h5,h6⟩:=m.newStable cells e (0,0) (len * i.size) (fun o ho=>⟨_,hget o ho,(h4 o (by omega)).oneCell (iT hsol (by omega)) (k6 hsol)⟩)
   refine ⟨_,.value (.slice (some ⟨w.heap.size,0,none⟩) len len),_,_,?_,.inl rfl,m',.any (.cell (.pure ?_ ⟨_,rfl⟩)),⟨hle,fun _ _=>rfl,fun i z m _ h=>⟨z,m,h,Nat.le_refl _,fun _=>rfl⟩,fun _ _ _ _ e=>e⟩⟩
   ·have hti:∀ w:World,(typeInfo e).run P w=.ok i w:=fun w=>by simp [typeInfo,program,Sem.run,hi]
    have hso:∀ w:World,(sizeOf e).run P w=.ok i.size w:=fun w=>by simp [sizeOf,hti]
    have hzv:∀ w:World,(zeroValue e).run P w=.ok zv w:=fun w=>by simp [zeroValue,hti,hz]
    have hsm:¬(len * i.size > 2 ^ 24):=by omega
    by_cases h0:len * i.size=0
    ·have:c0=(Array.range (len * i.size)).map ((#[]:Array Value)[· % 0]!):=by
      rw [hc0,h0]
      simp
     rw [this] at h1
     simp only [Instr.buildSlice,Sem.run_bind,aZ hu,Result.andThen_ok,hso,Sem.run_ite,if_neg hsm,if_pos h0,Sem.run_pure,List.size_toArray,List.length_nil,h1,newRow,run_newObj]
     rfl
    ·rw [hc0] at h1
     simp only [Instr.buildSlice,Sem.run_bind,aZ hu,Result.andThen_ok,hso,Sem.run_ite,if_neg hsm,if_neg h0,Sem.run_pure,hzv,h1,newRow,run_newObj]
     rfl
   ·have hlt:∀ i' j:Nat,i' < len→j < i.size→i' * i.size+j < len * i.size:=by
     intro i' j h1 h2
     have:(i'+1) * i.size≤len * i.size:=Nat.mul_le_mul_right _ h1
     rw [Nat.add_mul] at this
     omega
    have hgl:∀ i' j:Nat,i' < len→j < i.size→nth ((bif Nat.beq len 1 then fun _=>aI l else fun j=>((aI l).drop (j * i.size)).take i.size) i') j .dead=(nth l (i' * i.size+j) .dead).pure1:=by
     intro i' j h7 h8
     cases hb1:Nat.beq len 1 with
     | true =>
      have:=Nat.eq_of_beq_eq_true hb1
      have:i'=0:=by omega
      subst this
      simp only [cond_true,aV,Nat.zero_mul,Nat.zero_add]
     | false =>
      simp only [cond_false]
      rw [iZ _ _ _ h8,f0,aV]
    refine Rp.all (Nat.le_refl _) (fun i' h7=>?_) (fun i' j h7 h8=>?_)
    ·cases hb1:Nat.beq len 1 with
     | true =>
      have:=Nat.eq_of_beq_eq_true hb1
      subst this
      simp only [cond_true,aK]
      omega
     | false =>
      simp only [cond_false,List.length_take,List.length_drop,aK]
      have:=hlt i' (i.size - 1) h7 (by omega)
      omega
    ·have h9:=hlt i' j h7 h8
     refine ⟨cells.getD (i' * i.size+j) undef,?_,?_⟩
     ·show σ' w.heap.size _=_
      rw [Nat.zero_add,h5 _ h9,hget _ h9]
     ·rw [hgl i' j h7 h8,bG]
      exact ((h4 _ (by omega)).pure1).mono hle

def qD:Nat→Value→Value→Option Bool
 | 0,.int k a,.int k' b=>if k=k' then some (a==b) else none
 | 1,.bool a,.bool b=>some (a==b)
 | 2,.string a,.string b=>some (a.toList==b.toList)
 | _,_,_=>none

def eqv:List Nat→List Value→List Value→Option Bool
 | [],[],[]=>some true
 | c::cs,a::l,b::m=>match qD c a b,eqv cs l m with
  | some x,some y=>some (x&&y)
  | _,_=>none
 | _,_,_=>none

theorem aBJ {c:Nat} {a b:Value} {d e:D} {r:Bool} (ha:Rc F G tk a d) (hb:Rc F G tk b e) (h:eqc c d e=some r):qD c a b=some r:=by
 unfold eqc at h
 split at h
 ·rename_i k x k' y
  cases hk:iJ k k' with
  | false=>rw [hk] at h; cases h
  | true =>
   rw [hk] at h
   have:=o4 hk
   subst this
   cases h
   cases ha with | pure ha _=>cases hb with | pure hb _=>cases ha; cases hb; simp [qD]
 ·cases h
  cases ha with | pure ha _=>cases hb with | pure hb _=>cases ha; cases hb; rfl
 ·cases h
  cases ha with | pure ha _=>cases hb with | pure hb _=>cases ha; cases hb; rfl
 ·cases h

theorem yG:∀ (cs:List Nat) (l m:List D) (r:Bool) (xs ys:List Value),aCF cs l m=some r→xs.length=l.length→ys.length=m.length→(∀ j,j < l.length→Rc F G tk (xs.getD j undef) (nth l j .dead)) →
  (∀ j,j < m.length→Rc F G tk (ys.getD j undef) (nth m j .dead))→eqv cs xs ys=some r
 | cs,l,m,r,xs,ys,h,h1,h2,h3,h4=>by
  unfold aCF at h
  split at h
  ·cases h
   simp only [List.length_nil,List.length_eq_zero_iff] at h1 h2
   subst h1 h2
   rfl
  ·rename_i c a b
   match xs,ys,h1,h2 with
   | [x],[y],_,_ =>
    have:=aBJ (h3 0 (by simp)) (h4 0 (by simp)) h
    simp only [List.getD_cons_zero] at this
    simp [eqv,this]
  ·rename_i c cs a l b m _
   cases he:eqc c a b with
   | none=>rw [he] at h; cases h
   | some x =>
    rw [he] at h
    cases he2:aCF cs l m with
    | none=>rw [he2] at h; cases h
    | some y =>
     rw [he2] at h
     cases h
     match xs,ys,h1,h2 with
     | x1::xs,y1::ys,h1,h2 =>
      have e1:=aBJ (h3 0 (by simp)) (h4 0 (by simp)) he
      have e2:=yG cs l m y xs ys he2 (by simpa using h1) (by simpa using h2) (fun j hj=>h3 (j+1) (by simpa using hj)) (fun j hj=>h4 (j+1) (by simpa using hj))
      simp only [List.getD_cons_zero] at e1
      simp [eqv,e1,e2]
  ·cases h

theorem jS:∀ {cs:List Nat} {l m:List Value} {r:Bool},eqv cs l m=some r→l.length=cs.length∧m.length=cs.length
 | [],[],[],_,_=>⟨rfl,rfl⟩
 | c::cs,a::l,b::m,r,h=>by
  simp only [eqv] at h
  split at h
  ·rename_i x y _ h2
   have:=jS h2
   simp [this]
  ·cases h
 | [],_::_,_,_,h=>by simp [eqv] at h
 | [],[],_::_,_,h=>by simp [eqv] at h
 | _::_,[],_,_,h=>by simp [eqv] at h
 | _::_,_::_,[],_,h=>by simp [eqv] at h

theorem mJ:∀ {c1 c2:List Nat} {l m:List Value} {r:Bool},eqv (c1++c2) l m=some r→∃ r1 r2,eqv c1 (l.take c1.length) (m.take c1.length)=some r1∧eqv c2 (l.drop c1.length) (m.drop c1.length)=some r2∧r=(r1&&r2)
 | [],c2,l,m,r,h=>⟨true,r,rfl,h,by simp⟩
 | c::c1,c2,a::l,b::m,r,h=>by
  simp only [List.cons_append,eqv] at h
  split at h
  ·rename_i x y h1 h2
   obtain ⟨r1,r2,h3,h4,rfl⟩:=mJ h2
   cases h
   exact ⟨x&&r1,r2,by simp [eqv,h1,h3],h4,by simp [Bool.and_assoc]⟩
  ·cases h
 | _::_,_,[],_,_,h=>by simp [eqv] at h
 | _::_,_,_::_,[],_,h=>by simp [eqv] at h

def rB (P:Program) (t:TypeId) (v:Value) (l:List Value):Prop:=(bH P t=some true∧v=.agg l.toArray)∨(bH P t=some false∧l=[v])

theorem qM {t:TypeId} {g:Bool} {n:Nat} (hg:bH P t=some g) (hn:bR P t=some n) (h1:g=true∨n=1) (xs:Array Value) (off:Nat) (hl:((xs.toList.drop off).take n).length=n) :
  ∃ v,(part t xs off).run P w=.ok v w∧rB P t v ((xs.toList.drop off).take n):=by
 cases g with
 | true =>
  refine ⟨.agg (xs.extract off (off+n)),?_,.inl ⟨hg,?_⟩⟩
  ·simp only [part,Sem.run_bind,lJ hg,Result.andThen_ok,if_true,cT hn,Sem.run_pure]
  ·congr 1
   apply Array.ext'
   rw [Array.toList_extract]
   simp [List.extract]
 | false =>
  rcases h1 with h1 | h1
  ·cases h1
  subst h1
  have ho:off < xs.size:=by
   simp only [List.length_take,List.length_drop,Array.length_toList] at hl
   omega
  refine ⟨xs[off],?_,.inr ⟨hg,?_⟩⟩
  ·simp only [part,Sem.run_bind,lJ hg,Result.andThen_ok,Bool.false_eq_true,if_false,Array.getElem?_eq_getElem ho,Sem.run_pure]
  ·have ho':off < xs.toList.length:=by simpa using ho
   rw [List.drop_eq_getElem_cons ho']
   simp

theorem zP {d:Nat} {t:TypeId} {cs:List Nat} (h:gC P d t=some cs):bH P t=some true∨(bH P t=some false∧cs.length=1):=by
 cases d with
 | zero=>simp [gC] at h
 | succ d =>
  unfold gC at h
  unfold bH
  cases hu:P.underlying t with
  | none=>simp [hu] at h
  | some k =>
   simp only [hu] at h
   cases k <;> simp at h ⊢
   all_goals subst h; rfl

theorem iO (dd:Nat) {e:TypeId} {m:List Nat} (hm:bR P e=some m.length) (ha:bH P e=some true∨(bH P e=some false∧m.length=1))
  (ih:∀ (w:World) (v v':Value) (l l':List Value) (b:Bool),rB P e v l→rB P e v' l'→eqv m l l'=some b→(Op.equalIn dd e v v').run P w=.ok b w) (xs ys:Array Value) :
  ∀ (n s:Nat) (b:Bool),eqv (List.replicate n m).flatten (xs.toList.drop (s * m.length)) (ys.toList.drop (s * m.length))=some b→(Op.eqItems dd e m.length xs ys (List.range' s n)).run P w=.ok b w
 | 0,s,b,h=>by
  have:b=true:=by
   have:=jS h
   simp only [List.replicate_zero,List.flatten_nil,List.length_nil,List.length_eq_zero_iff] at this
   rw [this.1,this.2] at h
   simpa [eqv] using h.symm
  subst this
  simp [Op.eqItems]
 | n+1,s,b,h=>by
  rw [List.replicate_succ,List.flatten_cons] at h
  obtain ⟨r1,r2,h1,h2,rfl⟩:=mJ h
  obtain ⟨g,hg,hg1⟩:∃ g,bH P e=some g∧(g=true∨m.length=1):=by
   rcases ha with ha | ⟨ha,h1⟩
   ·exact ⟨true,ha,.inl rfl⟩
   ·exact ⟨false,ha,.inr h1⟩
  obtain ⟨v,p1,q1⟩:=qM (w:=w) hg hm hg1 xs (s * m.length) (jS h1).1
  obtain ⟨v',p2,q2⟩:=qM (w:=w) hg hm hg1 ys (s * m.length) (jS h1).2
  have h3:=ih w v v' _ _ _ q1 q2 h1
  have h4:=iO dd hm ha ih xs ys n (s+1) r2 (by
   rw [List.drop_drop,List.drop_drop] at h2
   rw [Nat.add_mul,Nat.one_mul]
   exact h2)
  rw [List.range'_succ]
  simp only [Op.eqItems,Sem.run_bind,p1,p2,h3,Result.andThen_ok,Sem.run_ite]
  cases r1
  ·simp
  ·simpa using h4

theorem iC (d dd:Nat) (xs ys:Array Value) (ih:∀ (t:TypeId) (cs:List Nat),gC P d t=some cs→∀ (w:World) (v v':Value) (l l':List Value) (b:Bool),rB P t v l→rB P t v' l'→eqv cs l l'=some b→(Op.equalIn dd t v v').run P w=.ok b w) :
  ∀ (fs:List Field) (at_:Nat) (cs:List Nat) (b:Bool),gT P (gC P d) fs at_=some cs→eqv cs (xs.toList.drop at_) (ys.toList.drop at_)=some b→(Op.eqFields dd xs ys fs).run P w=.ok b w
 | [],at_,cs,b,h,he=>by
  simp only [gT] at h
  cases h
  have:b=true:=by
   have:=jS he
   simp only [List.length_nil,List.length_eq_zero_iff] at this
   rw [this.1,this.2] at he
   simpa [eqv] using he.symm
  subst this
  simp [Op.eqFields]
 | f::fs,at_,cs,b,h,he=>by
  simp only [gT] at h
  split at h
  ·rename_i hf
   split at h
   ·rename_i m hm
    split at h
    ·rename_i hs
     rw [Option.map_eq_some_iff] at h
     obtain ⟨cs',h5,rfl⟩:=h
     obtain ⟨r1,r2,h1,h2,rfl⟩:=mJ he
     obtain ⟨g,hg,hg1⟩:∃ g,bH P f.type=some g∧(g=true∨m.length=1):=by
      rcases zP hm with ha | ⟨ha,h1⟩
      ·exact ⟨true,ha,.inl rfl⟩
      ·exact ⟨false,ha,.inr h1⟩
     obtain ⟨v,p1,q1⟩:=qM (w:=w) hg hs hg1 xs at_ (jS h1).1
     obtain ⟨v',p2,q2⟩:=qM (w:=w) hg hs hg1 ys at_ (jS h1).2
     have h3:=ih f.type m hm w v v' _ _ _ q1 q2 h1
     have h4:=iC d dd xs ys ih fs (at_+m.length) cs' r2 h5 (by rw [List.drop_drop,List.drop_drop] at h2; exact h2)
     rw [hf.2.symm] at p1 p2
     simp only [Op.eqFields,hf.1,ne_eq,not_false_eq_true,if_true,Sem.run_bind,p1,p2,h3,Result.andThen_ok,Sem.run_ite]
     cases r1
     ·simp
     ·simpa using h4
    ·cases h
   ·cases h
  ·cases h

theorem fL:∀ (d:Nat) (t:TypeId) (cs:List Nat),gC P d t=some cs→∀ (dd:Nat),d≤dd→∀ (w:World) (v v':Value) (l l':List Value) (b:Bool),rB P t v l→rB P t v' l'→eqv cs l l'=some b→(Op.equalIn dd t v v').run P w=.ok b w
 | 0,t,cs,h,_,_,_,_,_,_,_,_,_,_,_=>by simp [gC] at h
 | d+1,t,cs,h,0,hd,_,_,_,_,_,_,_,_,_=>by omega
 | d+1,t,cs,h,dd+1,hd,w,v,v',l,l',b,hv,hv',he=>by
  unfold gC at h
  have cell:∀ {k:TypeDesc},P.underlying t=some k→bH P t=some false→∃ x y,l=[x]∧l'=[y]∧v=x∧v'=y:=by
   intro k hu hg
   rcases hv with ⟨h1,_⟩ | ⟨_,h1⟩
   ·rw [hg] at h1; cases h1
   ·rcases hv' with ⟨h2,_⟩ | ⟨_,h2⟩
    ·rw [hg] at h2; cases h2
    ·exact ⟨v,v',h1,h2,rfl,rfl⟩
  have aggv:bH P t=some true→v=.agg l.toArray∧v'=.agg l'.toArray:=by
   intro hg
   rcases hv with ⟨_,h1⟩ | ⟨h1,_⟩
   ·rcases hv' with ⟨_,h2⟩ | ⟨h2,_⟩
    ·exact ⟨h1,h2⟩
    ·rw [hg] at h2; cases h2
   ·rw [hg] at h1; cases h1
  cases hu:P.underlying t with
  | none=>simp [hu] at h
  | some k =>
   simp only [hu] at h
   cases k with
   | struct fs =>
    simp only at h
    split at h
    ·cases h
    ·rename_i hst
     have hst:P.stoodInHeld t=false:=by simpa using hst
     obtain ⟨rfl,rfl⟩:=aggv (by simp [bH,hu])
     have hfs:P.fieldsOf t=fs:=by simp [Program.fieldsOf,hu]
     rw [run_equalIn_struct w dd t l.toArray l'.toArray (by rw [hfs]; exact hu) hst,hfs]
     exact iC d dd l.toArray l'.toArray (fun t cs ht=>fL d t cs ht dd (by omega)) fs.toList 0 cs b h (by simpa using he)
   | array n e =>
    simp only at h
    split at h
    ·rename_i m hm
     split at h
     ·rename_i hs
      cases h
      obtain ⟨rfl,rfl⟩:=aggv (by simp [bH,hu])
      obtain ⟨i,hi,his⟩:∃ i,P.info? e=some i∧i.size=m.length:=by
       simp only [bR,Option.map_eq_some_iff] at hs
       exact hs
      have hc:P.cellsOf e=m.length:=by simp [Program.cellsOf,hi,his]
      rw [run_equalIn_array w dd l.toArray l'.toArray hu hi,hc,List.range_eq_range']
      exact iO dd hs (zP hm) (fL d e m hm dd (by omega)) l.toArray l'.toArray n 0 b (by simpa using he)
     ·cases h
    ·cases h
   | bool =>
    cases h
    obtain ⟨x,y,rfl,rfl,rfl,rfl⟩:=cell hu (by simp [bH,hu])
    simp only [eqv] at he
    cases v <;> (try (simp [qD] at he; done)) <;> cases v' <;> (try (simp [qD] at he; done))
    simp only [qD] at he
    cases he
    simp [Op.equalIn,aZ hu]
   | int kk =>
    cases h
    obtain ⟨x,y,rfl,rfl,rfl,rfl⟩:=cell hu (by simp [bH,hu])
    simp only [eqv] at he
    cases v <;> (try (simp [qD] at he; done)) <;> cases v' <;> (try (simp [qD] at he; done))
    simp only [qD] at he
    split at he
    ·rename_i r1 r2 h2 h3
     split at h2
     ·rename_i hk
      cases h2
      cases h3
      cases he
      simp [Op.equalIn,aZ hu,hk]
     ·cases h2
    ·cases he
   | string =>
    cases h
    obtain ⟨x,y,rfl,rfl,rfl,rfl⟩:=cell hu (by simp [bH,hu])
    simp only [eqv] at he
    cases v <;> (try (simp [qD] at he; done)) <;> cases v' <;> (try (simp [qD] at he; done))
    simp only [qD] at he
    cases he
    simp [Op.equalIn,aZ hu,beq_toListBytes]
   | _=>cases h

theorem sR (m:Mem F B np w0 ext σ0 G hp tk w) {x y:Value} {d e:D} (hx:Rd F G tk x d) (hy:Rd F G tk y e) (id n:Nat) (neg:Bool) {t:TypeId} {cs:List Nat} (hg:P.eqGuardType P.depth t=false) (hf:gC P 20 t=some cs) (ha:bH P t=some true)
  {ox oy:Operand} {v:D} {u:Upd} (hh:(aQ (.eqAgg neg cs) id hp tk [d,e]).holds v u) :
  Does F B np w0 ext σ0 G hp tk (((do eqGuard (if neg then .neq else .eql) t ox oy x y; binOp (if neg then .neq else .eql) t x y:Sem Value).run P w).andThen fun v w=>.ok (.value v) w) id n v u:=by
 cases d with
 | agg l =>
  cases e with
  | agg l' =>
   simp only [aQ] at hh
   cases hc:aCF cs l l' with
   | none=>rw [hc] at hh; exact (aB hh).elim
   | some b =>
    rw [hc] at hh
    obtain ⟨rfl,rfl⟩:=aD hh
    obtain ⟨xs,rfl,h1,h2⟩:=hx.agg_inv
    obtain ⟨ys,rfl,h3,h4⟩:=hy.agg_inv
    have he:=yG cs l l' b xs.toList ys.toList hc (by simpa using h1) (by simpa using h3) (fun j hj=>by rw [← bA]; exact h2 j hj) (fun j hj=>by rw [← bA]; exact h4 j hj)
    have hr:=fL (P:=P) 20 t cs hf 10000 (by omega) w (.agg xs) (.agg ys) xs.toList ys.toList b (.inl ⟨ha,rfl⟩) (.inl ⟨ha,rfl⟩) he
    cases neg
    ·refine Does.val m (.any (.cell (.pure (.bool _) trivial))) ?_ id n
     simp only [Bool.false_eq_true,if_false,Sem.run_bind,run_eqGuard_agg w .eql t ox oy xs ys hg,run_eql_struct,hr,Result.andThen_ok,cond_false]
    ·refine Does.val m (.any (.cell (.pure (.bool _) trivial))) ?_ id n
     simp only [if_true,Sem.run_bind,run_eqGuard_agg w .neq t ox oy xs ys hg,run_neq_struct,hr,Result.andThen_ok,cond_true]
  | _=>exact (aB hh).elim
 | _=>exact (aB hh).elim

end
end Go.Abs

/- What the code's text is kI to. -/
namespace Go.Abs
open Go

section
variable {P:Program} {F:Nat→FuncId} {B np:Nat} {w0 w w':World} {ext:List Nat} {σ0:Og} {G G':Gh} {s:St} {a:Act} {ft:FT}

theorem aB2 {x y:Operand} {l:List AX} (h:i5 ft [x,y]=some l):∃ p q,l=[p,q]∧trX ft x=some p∧trX ft y=some q:=by
 simp only [i5] at h
 cases h1:trX ft x with
 | none=>simp [h1] at h
 | some p =>
  cases h2:trX ft y with
  | none=>simp [h1,h2] at h
  | some q =>
   simp [h1,h2] at h
   exact ⟨p,q,h.symm,rfl,rfl⟩

theorem aG7 {x y z:Operand} {l:List AX} (h:i5 ft [x,y,z]=some l):∃ p q t,l=[p,q,t]∧trX ft x=some p∧trX ft y=some q∧trX ft z=some t:=by
 simp only [i5] at h
 cases h1:trX ft x with
 | none=>simp [h1] at h
 | some p =>
  cases h2:trX ft y with
  | none=>simp [h1,h2] at h
  | some q =>
   cases h3:trX ft z with
   | none=>simp [h1,h2,h3] at h
   | some t =>
    simp [h1,h2,h3] at h
    exact ⟨p,q,t,h.symm,rfl,rfl,rfl⟩

theorem vV {G:Gh} {tk:Nat→Option (Nat×Nat)} {v:Value} {ax:AX} {fr:List D} (h:Rd F G tk v (ax.ev fr)) (t:TypeId):Rd F G tk v ((trZ P t ax).ev fr):=by
 unfold trZ
 split
 ·rename_i l
  obtain ⟨cs,rfl,h1,h2⟩:=Rd.agg_inv (l:=l) h
  refine .any (.agg cs _ (by rw [cM]; exact h1) fun j hj=>?_)
  rw [cM] at hj
  obtain ⟨z,hz⟩:=lY l (fF P 20 t) j
  rw [hz]
  exact qY (h2 j hj) z
 ·rename_i z g
  cases h with | any h=>cases h with | cell h=>exact .any (.cell (qY h _))
 ·exact h

theorem pF (hft:∀ f j,ag ft f=some j→F j=f) (r:Rel F B np w0 ext σ0 G s a w):∀ {l:List Operand} {ts:List TypeId} {as:List AX},kY ft P l ts=some as →
  l.length=as.length∧(evs s.fr as).length=as.length∧∀ j,j < as.length→Rd F G s.tk ((l.map a.eval).getD j undef) (nth (evs s.fr as) j .dead)
 | [],ts,as,h=>by cases h; exact ⟨rfl,rfl,fun j hj=>by simp at hj⟩
 | x::l,ts,as,h=>by
  simp only [kY] at h
  cases h1:trX ft x with
  | none=>simp [h1] at h
  | some ax =>
   cases h2:kY ft P l (ts.drop 1) with
   | none=>simp only [h1,h2,reduceCtorEq] at h
   | some as' =>
    simp only [h1,h2,Option.some.injEq] at h
    subst h
    obtain ⟨h3,h5,h4⟩:=pF hft r h2
    refine ⟨by simp [h3],by simp [evs,h5],fun j hj=>?_⟩
    cases j with
    | zero =>
     simp only [evs,nth,List.map_cons,List.getD_cons_zero]
     split
     ·exact .any (.cell (.pure (aBA _ _ _ _) ⟨none,rfl⟩))
     ·exact vV (aY hft r h1) _
     ·exact aY hft r h1
    | succ j=>exact h4 j (by simpa using hj)

theorem aF5 {x y:Operand} {ts:List TypeId} {l:List AX} (h:kY ft P [x,y] ts=some l):∃ p q,l=[p,q]:=by
 simp only [kY] at h
 cases h1:trX ft x with
 | none=>simp [h1] at h
 | some p =>
  cases h2:trX ft y with
  | none=>simp [h1,h2] at h
  | some q =>
   simp only [h1,h2,Option.some.injEq] at h
   exact ⟨_,_,h.symm⟩

theorem n8 {v:Value} {d:D} (h:gE v=some d) (lo hi:Nat):d.names1 lo hi=false:=by
 unfold gE at h
 split at h <;> cases h <;> rfl

theorem mH:∀ {l:List Value} {ds:List D},cL l=some ds→∀ lo hi,names lo hi ds=false
 | [],ds,h,lo,hi=>by cases h; rfl
 | v::l,ds,h,lo,hi=>by
  simp only [cL] at h
  split at h
  ·rename_i d ds' h1 h2
   cases h
   simp only [names,n8 h1 lo hi,cond_false]
   exact mH h2 lo hi
  ·cases h

theorem D.names_of1 {d:D} {lo hi:Nat} (h:d.names1 lo hi=false) (hn:∀ l,d≠.agg l∧d≠.tup l):d.names lo hi=false:=by
 cases d with
 | agg l=>exact absurd rfl (hn l).1
 | tup l=>exact absurd rfl (hn l).2
 | slice t z n g=>exact h
 | ptr j o=>exact h
 | _=>exact h

theorem s5 {v:Value} {d:D} (h:ofValue v=some d) (lo hi:Nat):d.names lo hi=false:=by
 unfold ofValue at h
 split at h
 ·rename_i cs
  cases hc:cL cs.toList with
  | none=>rw [hc] at h; cases h
  | some ds =>
   rw [hc] at h
   cases h
   exact mH hc lo hi
 ·have h1:=n8 h lo hi
  refine D.names_of1 h1 fun l=>?_
  unfold gE at h
  split at h <;> cases h <;> exact ⟨by simp,by simp⟩

theorem aEL {lo hi:Nat} (hcl:Clean lo hi s) {x:Operand} {ax:AX} (h:trX ft x=some ax):(ax.ev s.fr).names lo hi=false:=by
 cases x with
 | tmp t =>
  cases h
  simp only [AX.ev]
  by_cases ht:t < s.fr.length
  ·exact hcl.fr t ht
  ·rw [gS s.fr D.dead (Nat.le_of_not_lt ht)]
   rfl
 | const v =>
  simp only [trX,Option.map_eq_some_iff] at h
  obtain ⟨d,h1,rfl⟩:=h
  exact s5 h1 lo hi
 | global g=>cases h
 | func f =>
  simp only [trX,Option.map_eq_some_iff] at h
  obtain ⟨j,h1,rfl⟩:=h
  rfl

theorem fR {t:TypeId} {ds:List D} (h:rF P t=some ds):∃ i zv,P.info? t=some i∧i.zero=some zv∧cL zv.cells.toList=some ds:=by
 unfold rF at h
 cases hi:P.info? t with
 | none=>simp [hi] at h
 | some i =>
  cases hz:i.zero with
  | none=>simp [hi,hz] at h
  | some zv =>
   simp [hi,hz] at h
   exact ⟨i,zv,rfl,hz,h⟩

theorem mL {t:TypeId} {n:Nat} (h:bR P t=some n):∃ i,P.info? t=some i∧i.size=n:=by
 simpa only [bR,Option.map_eq_some_iff] using h

theorem mA {x:Operand} (h:jB x=true):x=.const (.slice none 0 0):=by
 unfold jB at h
 split at h
 ·rfl
 ·cases h

theorem l4 {place place':Nat→Option (Nat×Nat)} (hft:∀ f j,ag ft f=some j→F j=f) (r:Rel F B np w0 ext σ0 G s a w) (hpp:∀ i q,place i=some q→place' i=some q):∀ (l:List (Nat×Operand)) (qs:List (Nat×Nat)) (xs:List AX),
  hG place l=some qs→i5 ft (l.map (·.2))=some xs→jY F G s.tk place' (l.map fun (i,x)=>(i,a.eval x)) qs (evs s.fr xs)
 | [],qs,xs,h1,h2=>by cases h1; cases h2; exact .nil
 | (i,x)::l,qs,xs,h1,h2=>by
  simp only [hG] at h1
  simp only [List.map_cons,i5] at h2
  cases e1:place i with
  | none=>simp [e1] at h1
  | some q =>
   cases e2:hG place l with
   | none=>simp [e1,e2] at h1
   | some qs' =>
    cases e3:trX ft x with
    | none=>simp [e3] at h2
    | some ax =>
     cases e4:i5 ft (l.map (·.2)) with
     | none=>simp [e3,e4] at h2
     | some xs' =>
      simp only [e1,e2,Option.some.injEq] at h1
      simp only [e3,e4,Option.some.injEq] at h2
      subst h1 h2
      exact .cons (hpp _ _ e1) (aY hft r e3) (l4 hft r hpp l qs' xs' e2 e4)

theorem oV:∀ (fs:List Field),(fs.all fun f=>(bR P f.type).isSome)=true→∃ places:List (Nat×Nat),fs.mapM (fun f=>(P.info? f.type).map fun i=>(f.offset,i.size))=some places ∧
  ∀ i:Nat,places[i]? = match fs[i]? with | some f=>(bR P f.type).map fun n=>(f.offset,n) | none=>none
 | [],_=>⟨[],by simp,fun i=>by simp⟩
 | f::fs,h=>by
  simp only [List.all_cons,Bool.and_eq_true] at h
  obtain ⟨places,h1,h2⟩:=oV fs h.2
  obtain ⟨n,hn⟩:=Option.isSome_iff_exists.1 h.1
  obtain ⟨i,hi,hs⟩:=mL hn
  refine ⟨(f.offset,i.size)::places,by simp [List.mapM_cons,hi,h1],fun j=>?_⟩
  cases j with
  | zero=>simp [bR,hi]
  | succ j=>simpa using h2 j

theorem iV (hft:∀ f j,ag ft f=some j→F j=f) (r:Rel F B np w0 ext σ0 G s a w) {o:Option Operand} {os:List (Option Operand)} {l:List AX} (h:wX ft (o::os)=some l):∃ l',wX ft os=some l'∧Op1 F G s.tk (o.map a.eval) o.isSome (evs s.fr l) (evs s.fr l'):=by
 cases o with
 | none=>exact ⟨l,h,.absent _⟩
 | some x =>
  simp only [wX] at h
  cases h1:trX ft x with
  | none=>simp [h1] at h
  | some ax =>
   cases h2:wX ft os with
   | none=>simp [h1,h2] at h
   | some l' =>
    simp only [h1,h2,Option.some.injEq] at h
    subst h
    exact ⟨l',rfl,.here _ (aY hft r h1)⟩

theorem xQ {l:List AX} (h:wX ft []=some l):l=[]:=by cases h; rfl

theorem yU:∀ (ds:List D) (zs:List Nat),(eP ds zs).length=ds.length
 | [],zs=>rfl
 | d::ds,zs=>by
  have h0:∀ zs,(eP ds zs).length=ds.length:=fun zs=>yU ds zs
  cases d <;> (try simp only [eP,List.length_cons,h0])
  cases zs <;> simp only [eP,List.length_cons,h0]

theorem Clean.free {lo hi:Nat} (h:Clean lo hi s):Free s.hp s.tk lo hi:=⟨h.hp,h.tk⟩

end
end Go.Abs

/- A map's entries,by their places. -/
namespace Go.Abs
open Go

theorem r9 (ks:Nat→ByteArray) (key:ByteArray):∀ n,mpF ks key n≤n
 | 0=>Nat.le_refl _
 | n+1=>by
  simp only [mpF]
  have:=r9 ks key n
  split
  ·omega
  ·split <;> omega

theorem aAT (ks:Nat→ByteArray) (key:ByteArray):∀ n,mpF ks key n < n→ks (mpF ks key n)=key
 | 0,h=>by simp [mpF] at h
 | n+1,h=>by
  simp only [mpF] at h ⊢
  split
  ·rename_i h1
   exact aAT ks key n h1
  ·rename_i h1
   rw [if_neg h1] at h
   split
   ·rename_i h2
    exact h2
   ·rename_i h2
    rw [if_neg h2] at h
    omega

theorem uK (ks:Nat→ByteArray) (key:ByteArray):∀ n j,j < mpF ks key n→ks j≠key
 | 0,j,h=>by simp [mpF] at h
 | n+1,j,h=>by
  simp only [mpF] at h
  have h0:=uK ks key n j
  have h1:=r9 ks key n
  split at h
  ·exact h0 h
  ·split at h
   ·exact h0 (by omega)
   ·rename_i h2 h3
    by_cases hj:j=n
    ·subst hj; exact h3
    ·exact h0 (by omega)

theorem sX (k:ByteArray):∀ (l:List MapEntry) (i0 m:Nat),m≤l.length→(∀ q,q < m→∃ s,(l.getD q default).key=.string s∧s≠k) →
  (m < l.length→(l.getD m default).key=.string k)→Instr.findNow .string (.string k) l i0=some (if m < l.length then some (i0+m,(l.getD m default).val) else none)
 | [],i0,m,_,_,_=>by simp [Instr.findNow]
 | e::l,i0,m,hm,h1,h2=>by
  cases m with
  | zero =>
   have h2:=h2 (by simp)
   simp only [List.getD_cons_zero] at h2
   have:Instr.sameNow .string (.string k) e.key=some true:=by rw [h2]; simp [Instr.sameNow,(Go.MapKept.bytes_beq k k).2 rfl]
   simp [Instr.findNow,this]
  | succ m =>
   obtain ⟨s,e1,e2⟩:=h1 0 (by omega)
   simp only [List.getD_cons_zero] at e1
   have:Instr.sameNow .string (.string k) e.key=some false:=by
    rw [e1]
    simp only [Instr.sameNow,Option.some.injEq]
    cases hb:k==s with
    | false=>rfl
    | true=>exact absurd ((Go.MapKept.bytes_beq k s).1 hb).symm e2
   have ih:=sX k l (i0+1) m (by simpa using hm) (fun q hq=>by simpa using h1 (q+1) (by omega)) (fun hl=>by simpa using h2 (by simpa using hl))
   simp only [Instr.findNow,this,ih,List.length_cons,Nat.add_lt_add_iff_right,List.getD_cons_succ]
   split
   ·simp; omega
   ·rfl

section
variable {P:Program} {F:Nat→FuncId} {B np:Nat} {w0 w w':World} {ext:List Nat} {σ0:Og} {G:Gh} {hp:Nat→Option (Bool×List D)} {tk:Nat→Option (Nat×Nat)}

theorem Mem.allocObj (m:Mem F B np w0 ext σ0 G hp tk w) (ob:Obj) :
  Mem F B np w0 ext σ0 { G with σ:=aJ G.σ w.heap.size (fun _=>none) } hp tk (w.alloc ob):=by
 have hle:=eB m (fun _=>none)
 constructor
 ·intro b o v h
  by_cases hb:b=w.heap.size
  ·subst hb
   simp [aJ] at h
  ·simp only [aJ,if_neg hb] at h
   obtain ⟨h1,c',e',fz',h2,h3⟩:=m.stab b o v h
   exact ⟨h1,c',e',fz',cE h2,h3⟩
 ·intro b o hb
  have:=m.base
  simp only [aJ]
  rw [if_neg (by omega)]
  exact m.old b o hb
 ·exact m.os
 ·exact m.tape
 ·exact m.output
 ·have:=m.base; simp; omega
 ·intro b hb he
  rw [Go.heap_alloc_old w _ (r:=b) (by have:=m.base; omega)]
  exact m.keep b hb he
 ·intro id cs h hna
  obtain ⟨o',h1,h3,h4⟩:=m.vars id cs h hna
  refine ⟨o',cE h1,h3.imp fun j v hj hr=>hr.more hle,fun o=>?_⟩
  have:=(Array.getElem?_eq_some_iff.1 h1).1
  simp only [aJ]
  rw [if_neg (by omega)]
  exact h4 o
 ·intro id fw z n g h
  obtain ⟨a,c',h1,h2⟩:=m.rows id fw z n g h
  refine ⟨a,c',h1,fun b hb hc=>?_⟩
  obtain ⟨h3,o',h4,h5⟩:=h2 b hb hc
  refine ⟨fun q=>?_,o',cE h4,h5.mono hle⟩
  have:=(Array.getElem?_eq_some_iff.1 h4).1
  simp only [aJ]
  rw [if_neg (by omega)]
  exact h3 q
 ·intro id cs h j hj
  obtain ⟨v,h1,h2,h3⟩:=m.froz id cs h j hj
  exact ⟨v,hle _ _ _ h1,h2.mono hle,h3⟩
 ·intro i z n h
  obtain ⟨a,c',h1,h2,h3⟩:=m.toks i z n h
  refine ⟨a,c',h1,h2,fun hn=>?_⟩
  obtain ⟨b,cur,e',h4,h5,h6,h7⟩:=h3 hn
  refine ⟨b,cur,e',h4,cE h5,h6,fun o ho=>?_⟩
  have:=(Array.getElem?_eq_some_iff.1 h5).1
  simp only [aJ]
  rw [if_neg (by omega)]
  exact h7 o ho
 ·exact m.own1
 ·exact m.own2

def MapR (σ:Sg) (es:Array MapEntry) (va:Bool) (n:Nat) (ks:Nat→ByteArray) (vs:Nat→List D):Prop :=
 es.size=n∧∀ i (h:i < es.size),es[i].key=.string (ks i)∧CellsV σ va es[i].val (vs i)

theorem MapR.rc {es:Array MapEntry} {va:Bool} {n:Nat} {ks:Nat→ByteArray} {vs:Nat→List D} (h:MapR G.σ es va n ks vs):Rc F G tk (.tuple #[.tuple (es.map (·.key)),.tuple (es.map (·.val))]) (.mp va n ks vs):=by
 obtain ⟨h1,h2⟩:=h
 refine .mp _ _ va n ks vs (by simp [h1]) (by simp [h1]) (fun i hi=>?_) (fun i hi=>?_)
 ·have:=(h2 i (by omega)).1
  simp [Array.getD,h1,hi,this]
 ·have:=(h2 i (by omega)).2
  simpa [Array.getD,h1,hi] using this

theorem Rc.mapR {es:Array MapEntry} {va:Bool} {n:Nat} {ks:Nat→ByteArray} {vs:Nat→List D} (h:Rc F G tk (.tuple #[.tuple (es.map (·.key)),.tuple (es.map (·.val))]) (.mp va n ks vs)):MapR G.σ es va n ks vs:=by
 cases h with
 | pure h _=>cases h
 | mp _ _ _ _ _ _ h1 h2 h3 h4 =>
  simp only [Array.size_map] at h1
  refine ⟨h1,fun i hi=>⟨?_,?_⟩⟩
  ·have:=h3 i (by omega)
   simpa [Array.getD,hi] using this
  ·have:=h4 i (by omega)
   simpa [Array.getD,hi] using this

theorem Rd.mref_inv {v:Value} {i:Nat} (h:Rd F G tk v (.mref i)):v=.map (some (G.β i)):=by
 cases h with
 | any h=>cases h with | cell h=>cases h with | pure h _=>cases h
 | mref _=>rfl

theorem Mem.map (m:Mem F B np w0 ext σ0 G hp tk w) {i n:Nat} {va:Bool} {ks:Nat→ByteArray} {vs:Nat→List D} (h:hp i=some (false,[.dead,.mp va n ks vs])):∃ es clock,w.heap[G.β i]? = some (.map es clock)∧MapR G.σ es va n ks vs:=by
 obtain ⟨o,h1,h2,_⟩:=m.vars i _ h rfl
 rcases h2 with ⟨hs,_⟩ | ⟨_,_,_,h3⟩ | ⟨es,clock,va',n',ks',vs',rfl,h3,h4⟩
 ·simp [aG] at hs
 ·simp at h3
 ·simp only [List.cons.injEq,D.mp.injEq,true_and,and_true] at h3
  obtain ⟨rfl,rfl,rfl,rfl⟩:=h3
  exact ⟨es,clock,h1,h4.mapR⟩

theorem aCA {y:Value} {e:D} (h:Rd F G tk y e) (hs:aG e.cells=true):CellsV G.σ e.isAgg y (aI e.cells):=by
 cases h with
 | tup=>simp [D.cells,aG] at hs
 | mref=>simp [D.cells,aG] at hs
 | msl=>simp [D.cells,aG] at hs
 | rptr=>simp [D.cells,aG] at hs
 | any h =>
  cases h with
  | agg cs l h1 h2 =>
   refine .inl ⟨rfl,cs,rfl,by rw [D.cells,aK]; exact h1,fun j hj=>?_⟩
   rw [D.cells,aK] at hj
   rw [D.cells,aV,bG]
   exact (h2 j hj).pure1
  | cell h =>
   have key:e.isAgg=false∧e.cells=[e]:=by
    cases h with
    | pure h _=>cases h <;> exact ⟨rfl,rfl⟩
    | _=>exact ⟨rfl,rfl⟩
   rw [key.1,key.2]
   exact .inr ⟨rfl,rfl,by simp only [aI,nth]; rw [bG]; exact h.pure1⟩

theorem zZ (m:Mem F B np w0 ext σ0 G hp tk w) {id nn:Nat} (hn:0 < nn) (fr:Free hp tk id (id+nn)) (t:TypeId) (va:Bool) {v:D} {u:Upd}
  (hh:(aQ (.mkMap va) id hp tk []).holds v u):Does F B np w0 ext σ0 G hp tk (((Instr.makeMap t none).run P w).andThen fun v w=>.ok (.value v) w) id nn v u:=by
 simp only [aQ] at hh
 obtain ⟨rfl,rfl⟩:=aT hh
 have m1:=m.allocObj (.map #[] 0)
 have hle:=eB m (fun _=>none)
 have hk:Keeps id (id+nn) G { σ:=aJ G.σ w.heap.size (fun _=>none),β:=fun j=>if j=id then w.heap.size else G.β j,ρ:=G.ρ,η:=G.η } tk tk :=
  ⟨hle,fun j hj=>by simp only; rw [if_neg (by omega)],fun _ z m _ e=>⟨z,m,e,Nat.le_refl _,fun _=>rfl⟩,fun _ _ _ _ e=>e⟩
 have m2:=m1.addObj id w.heap.size [.dead,.mp va 0 (fun _=>.empty) hY] (.map #[] 0) (heap_alloc_new w _)
  (.inr (.inr ⟨#[],0,va,0,_,_,rfl,rfl,MapR.rc ⟨rfl,fun i hi=>absurd hi (Nat.not_lt_zero _)⟩⟩)) (fun o=>by simp [aJ])
  (fun k hk=>by have:=m.own_lt (k:=k) (b:=w.heap.size) (by cases k <;> exact hk); omega) (.inl m.base) (fr.var ⟨Nat.le_refl _,by omega⟩)
  (fun id' f cs' h=>dB (fr.hp id' f cs' h).2 (Nat.le_refl _) (by omega))
 refine ⟨_,.value (.map (some w.heap.size)),_,_,?_,.inl rfl,m2,?_,hk⟩
 ·simp [Instr.makeMap]
 ·have:=Rd.mref (F:=F) (G:={ σ:=aJ G.σ w.heap.size (fun _=>none),β:=fun j=>if j=id then w.heap.size else G.β j,ρ:=G.ρ,η:=G.η }) (tk:=tk) id
  simpa [cG] using this

theorem xI (m:Mem F B np w0 ext σ0 G hp tk w) {x:Value} {d:D} (hx:Rd F G tk x d) (id nn:Nat) {t ty k e:TypeId} (ht:P.underlying t=some (.map k e)) {v:D} {u:Upd}
  (hh:(aQ .mapLen id hp tk [d]).holds v u):Does F B np w0 ext σ0 G hp tk (((Builtin.len_ #[t] ty #[x]).run P w).andThen fun v w=>.ok (.value v) w) id nn v u:=by
 cases d with
 | mref i =>
  simp only [aQ] at hh
  unfold qT at hh
  split at hh
  ·rename_i va n ks vs hi
   obtain ⟨rfl,rfl⟩:=aD hh
   have:=hx.mref_inv
   subst this
   obtain ⟨es,clock,h1,h2,_⟩:=m.map hi
   refine Does.val m (v:=.int .i64 es.size) ?_ ?_ id nn
   ·rw [h2]
    exact .any (.cell (.pure (.int _ _) trivial))
   ·simp [Builtin.len_,run_underlying ht,MapKept.run_getObj_map h1,goInt]
  ·exact (aB hh).elim
 | _=>exact (aB hh).elim

theorem MapR.find {σ:Sg} {es:Array MapEntry} {va:Bool} {n:Nat} {ks:Nat→ByteArray} {vs:Nat→List D} (h:MapR σ es va n ks vs) {kt:TypeId} (hk:P.underlying kt=some .string) (k:ByteArray) (w:World) :
  (Instr.findKey kt (.string k) es.toList).run P w=.ok (if h:mpF ks k n < es.size then some (mpF ks k n,(es[mpF ks k n]).val) else none) w:=by
 obtain ⟨h1,h2⟩:=h
 have hg:∀ q,q < es.size→(es.toList.getD q default)=es.getD q default:=fun q hq=>by simp [Array.getD,hq]
 have key:=sX k es.toList 0 (mpF ks k n) (by have:=r9 ks k n; simpa [h1] using this) (fun q hq=>by
  have hq':q < es.size:=by have:=r9 ks k n; omega
  refine ⟨ks q,?_,uK ks k n q hq⟩
  have:=(h2 q hq').1
  simpa [hq'] using this) (fun hl=>by
  have hl':mpF ks k n < es.size:=by simpa using hl
  have:=(h2 _ hl').1
  rw [aAT ks k n (by omega)] at this
  simpa [hl'] using this)
 unfold Instr.findKey
 simp only [Sem.run_bind,run_underlying hk,Result.andThen_ok,key]
 by_cases hl:mpF ks k n < es.size
 ·simp [hl]
 ·simp [hl]

theorem MapR.set {σ:Sg} {es:Array MapEntry} {va:Bool} {n:Nat} {ks:Nat→ByteArray} {vs:Nat→List D} (h:MapR σ es va n ks vs) (k:ByteArray) {y:Value} {ds:List D} (hy:CellsV σ va y ds) (hf:mpF ks k n < es.size) :
  MapR σ (es.modify (mpF ks k n) fun e=>{ e with key:=.string k,val:=y }) va (mpN ks k n) (oO ks k n) (n7 ks vs k ds n):=by
 obtain ⟨h1,h2⟩:=h
 refine ⟨by rw [mpN,if_pos (by omega)]; simp [h1],fun i hi=>?_⟩
 simp only [Array.size_modify] at hi
 rw [Array.getElem_modify]
 by_cases hj:mpF ks k n=i
 ·rw [if_pos hj]
  simp only [oO,n7,hj,if_true]
  exact ⟨trivial,hy⟩
 ·rw [if_neg hj]
  simp only [oO,n7]
  rw [if_neg (fun e=>hj e.symm),if_neg (fun e=>hj e.symm)]
  exact h2 i hi

theorem MapR.push {σ:Sg} {es:Array MapEntry} {va:Bool} {n:Nat} {ks:Nat→ByteArray} {vs:Nat→List D} (h:MapR σ es va n ks vs) (k:ByteArray) {y:Value} {ds:List D} (hy:CellsV σ va y ds) (hf:¬mpF ks k n < es.size) (clock:Nat) :
  MapR σ (es.push { key:=.string k,val:=y,born:=clock }) va (mpN ks k n) (oO ks k n) (n7 ks vs k ds n):=by
 obtain ⟨h1,h2⟩:=h
 have hn:=r9 ks k n
 have hm:mpF ks k n=n:=by omega
 refine ⟨by rw [mpN,if_neg (by omega)]; simp [h1],fun i hi=>?_⟩
 simp only [Array.size_push] at hi
 rw [Array.getElem_push]
 by_cases hj:i < es.size
 ·rw [dif_pos hj]
  simp only [oO,n7]
  rw [if_neg (by omega),if_neg (by omega)]
  exact h2 i hj
 ·rw [dif_neg hj]
  simp only [oO,n7]
  rw [if_pos (by omega),if_pos (by omega)]
  exact ⟨rfl,hy⟩

theorem tG (k:ByteArray):Instr.sameBits 10000 (.string k) (.string k)=true:=by
 show (k==k)=true
 exact (MapKept.bytes_beq k k).2 rfl

theorem y9 (m:Mem F B np w0 ext σ0 G hp tk w) {x y z:Value} {d e f:D} (hx:Rd F G tk x d) (hy:Rd F G tk y e) (hz:Rd F G tk z f) (id nn:Nat) {t kt et:TypeId} (ht:P.underlying t=some (.map kt et)) (hkt:P.underlying kt=some .string) {v:D} {u:Upd}
  (hh:(aQ .mapSet id hp tk [d,e,f]).holds v u):Does F B np w0 ext σ0 G hp tk (((Instr.mapUpdate t x y z).run P w).andThen fun _ w=>.ok .skip w) id nn v u:=by
 cases d with
 | mref i =>
  cases e with
  | str k =>
   simp only [aQ] at hh
   unfold sN at hh
   split at hh
   ·rename_i va n ks vs hi
    cases hb:(vJ f.isAgg va&&aG f.cells) with
    | false=>rw [hb] at hh; exact (aB hh).elim
    | true =>
     rw [hb] at hh
     obtain ⟨rfl,rfl⟩:=aT hh
     have hb:=gK hb
     have hva:f.isAgg=va:=by
      have:=hb.1
      cases hfa:f.isAgg <;> cases va <;> first | rfl | (rw [hfa] at this; cases this)
     have hc:=aCA hz hb.2
     rw [hva] at hc
     have e1:=hx.mref_inv
     have e2:=hy.str_inv
     subst e1 e2
     obtain ⟨es,clock,h1,h2⟩:=m.map hi
     have hfk:=h2.find (P:=P) hkt k w
     have hlt:G.β i < w.heap.size:=(Array.getElem?_eq_some_iff.1 h1).1
     have wr:∀ o:Obj,x9 (G.β i) w { w with heap:=w.heap.setIfInBounds (G.β i) o }:=fun o=>⟨rfl,rfl,rfl,by simp,fun k hk=>by simp [Ne.symm hk]⟩
     have at_:∀ o:Obj,({ w with heap:=w.heap.setIfInBounds (G.β i) o }:World).heap[G.β i]? = some o:=fun o=>by simp [hlt]
     by_cases hf:mpF ks k n < es.size
     ·rw [dif_pos hf] at hfk
      have hke:es[mpF ks k n].key=.string k:=by
       rw [(h2.2 _ hf).1,aAT ks k n (by have:=h2.1; omega)]
      refine ⟨_,.skip,undef,G,?_,.inr ⟨rfl,rfl⟩,m.setObj i _ [.dead,.mp va (mpN ks k n) (oO ks k n) (n7 ks vs k (aI f.cells) n)] hi (.map (es.modify (mpF ks k n) fun e=>{ e with key:=.string k,val:=z }) clock) (wr _) (at_ _) rfl
       (.inr (.inr ⟨_,_,_,_,_,_,rfl,rfl,(h2.set k hc hf).rc⟩)),Rd.dead _,Keeps.refl _ _ _ _⟩
      unfold Instr.mapUpdate
      simp only [Sem.run_bind,run_underlying ht,Result.andThen_ok,MapKept.run_getObj_map h1,MapKept.run_checkKey (k:=.string k) hkt trivial,hfk]
      simp only [Instr.keyThatStays,hf,Array.getElem?_eq_getElem,Option.map_some,Option.getD_some,hke,tG,if_true,Sem.run_pure,Result.andThen_ok,MapKept.run_setObj_map _ h1,Sem.run_bind]
     ·rw [dif_neg hf] at hfk
      refine ⟨_,.skip,undef,G,?_,.inr ⟨rfl,rfl⟩,m.setObj i _ [.dead,.mp va (mpN ks k n) (oO ks k n) (n7 ks vs k (aI f.cells) n)] hi (.map (es.push { key:=.string k,val:=z,born:=clock }) (clock+1)) (wr _) (at_ _) rfl
       (.inr (.inr ⟨_,_,_,_,_,_,rfl,rfl,(h2.push k hc hf clock).rc⟩)),Rd.dead _,Keeps.refl _ _ _ _⟩
      unfold Instr.mapUpdate
      simp only [Sem.run_bind,run_underlying ht,Result.andThen_ok,MapKept.run_getObj_map h1,MapKept.run_checkKey (k:=.string k) hkt trivial,hfk]
      simp only [MapKept.run_setObj_map _ h1,Result.andThen_ok]
   ·exact (aB hh).elim
  | _=>exact (aB hh).elim
 | _=>exact (aB hh).elim

theorem tX {σ:Sg} (hσ:G.σ=σ) {va:Bool} {v:Value} {ds:List D} (h:CellsV σ va v ds) (comma ok:Bool):Rd F G tk (if comma then .tuple #[v,.bool ok] else v) (kE comma va ok ds):=by
 subst hσ
 have hrt:Rt F G tk v (mkv va (aI ds))∧Ra F G tk v (mkv va (aI ds)):=by
  rcases h with ⟨rfl,cs,rfl,h2,h3⟩ | ⟨rfl,h2,h3⟩
  ·have hj:∀ j,j < (aI ds).length→Rp G.σ (cs.getD j undef) (nth (aI ds) j .dead)∧nth (aI ds) j .dead=(nth (aI ds) j .dead).pure1:=fun j hj=>by
    rw [aK] at hj
    rw [aV]
    exact ⟨h3 j hj,(bG _).symm⟩
   refine ⟨.agg cs _ (by rw [aK]; exact h2) hj,.agg cs _ (by rw [aK]; exact h2) fun j hj'=>?_⟩
   rw [(hj j hj').2]
   exact .pure ((hj j hj').2 ▸ (hj j hj').1) (b7 _ _)
  ·have:mkv false (aI ds)=(nth ds 0 .dead).pure1:=by
    simp only [mkv,cond_false]
    rw [aV]
   rw [this]
   exact ⟨.cell (.pure h3 (b7 _ _)),.cell (.pure h3 (b7 _ _))⟩
 cases comma with
 | false=>simpa [kE] using Rd.any hrt.2
 | true =>
  simp only [kE,if_true,cond_true]
  refine .tup _ _ (by simp) fun j hj=>?_
  rcases j with _ | _ | j
  ·simpa [nth] using hrt.1
  ·simpa [nth] using Rt.cell (.pure (.bool ok) trivial)
  ·simp at hj; omega

theorem yA {t:TypeId} {va:Bool} {l:List D} (h:x6 P t=some (va,l)) (σ:Sg):∃ i zv,P.info? t=some i∧i.zero=some zv∧CellsV σ va zv l:=by
 unfold x6 at h
 cases hi:P.info? t with
 | none=>simp [hi] at h
 | some i =>
  simp only [hi] at h
  cases hz:i.zero with
  | none=>simp [hz] at h
  | some zv =>
   simp only [hz] at h
   refine ⟨i,zv,rfl,hz,?_⟩
   have other:(gE zv).map (fun d=>(false,eE [d] (fF P 20 t)))=some (va,l)→CellsV σ va zv l:=by
    intro h
    rw [Option.map_eq_some_iff] at h
    obtain ⟨d,h1,h2⟩:=h
    cases h2
    have hc:cL [zv]=some [d]:=by simp [cL,h1]
    obtain ⟨_,h3⟩:=dK (F:=fun _=>0) (G:=⟨σ,fun _=>0,fun _=>undef,fun _ _=>none⟩) (tk:=fun _=>none) hc
    refine .inr ⟨rfl,by rw [cM]; rfl,?_⟩
    have:=m8 h3 (fF P 20 t) 0 (by rw [cM]; simp)
    exact this.pure1
   cases zv with
   | agg cs =>
    simp only [Option.map_eq_some_iff] at h
    obtain ⟨l',h1,h2⟩:=h
    cases h2
    obtain ⟨h2,h3⟩:=dK (F:=fun _=>0) (G:=⟨σ,fun _=>0,fun _=>undef,fun _ _=>none⟩) (tk:=fun _=>none) h1
    refine .inl ⟨rfl,cs,rfl,by rw [cM,← h2]; simp,fun j hj=>?_⟩
    have:=m8 h3 (fF P 20 t) j hj
    rw [← bA] at this
    exact this.pure1
   | _=>exact other h

theorem zR (m:Mem F B np w0 ext σ0 G hp tk w) {x y:Value} {d e:D} (hx:Rd F G tk x d) (hy:Rd F G tk y e) (id nn:Nat) {t kt et:TypeId} (ht:P.underlying t=some (.map kt et)) (hkt:P.underlying kt=some .string) (comma:Bool) {va:Bool} {zero:List D} (hz:x6 P et=some (va,zero)) {v:D} {u:Upd}
  (hh:(aQ (.mapGet comma va zero) id hp tk [d,e]).holds v u):Does F B np w0 ext σ0 G hp tk (((Instr.lookup t x y comma).run P w).andThen fun v w=>.ok (.value v) w) id nn v u:=by
 cases d with
 | mref i =>
  cases e with
  | str k =>
   simp only [aQ] at hh
   unfold sC at hh
   split at hh
   ·rename_i va' n ks vs hi
    cases hb:vJ va' va with
    | false=>rw [hb] at hh; exact (aB hh).elim
    | true =>
     rw [hb] at hh
     simp only [cond_true] at hh
     have hva:va'=va:=by cases va' <;> cases va <;> first | rfl | cases hb
     subst hva
     have e1:=hx.mref_inv
     have e2:=hy.str_inv
     subst e1 e2
     obtain ⟨es,clock,h1,h2⟩:=m.map hi
     have hfk:=h2.find (P:=P) hkt k w
     rcases cP hh with ⟨hc,rfl,rfl⟩ | ⟨hc,rfl,rfl⟩
     ·have hf:mpF ks k n < es.size:=by rw [h2.1]; simpa using hc
      rw [dif_pos hf] at hfk
      refine Does.val m (tX rfl (h2.2 _ hf).2 comma true) ?_ id nn
      unfold Instr.lookup
      simp only [Sem.run_bind,run_underlying ht,Result.andThen_ok,MapKept.run_getObj_map h1,Sem.run_pure,MapKept.run_checkKey (k:=.string k) hkt trivial,hfk]
     ·have hf:¬mpF ks k n < es.size:=by rw [h2.1]; simpa using hc
      rw [dif_neg hf] at hfk
      obtain ⟨i',zv,hi',hzv,hcz⟩:=yA hz G.σ
      refine Does.val m (tX rfl hcz comma false) ?_ id nn
      unfold Instr.lookup
      simp only [Sem.run_bind,run_underlying ht,Result.andThen_ok,MapKept.run_getObj_map h1,Sem.run_pure,MapKept.run_checkKey (k:=.string k) hkt trivial,hfk]
      have hzr:(zeroValue et).run P w=.ok zv w:=by simp [zeroValue,typeInfo,program,Sem.run,hi',hzv]
      simp only [hzr,Result.andThen_ok,Sem.run_bind,Sem.run_pure]
   ·exact (aB hh).elim
  | _=>exact (aB hh).elim
 | _=>exact (aB hh).elim

end
end Go.Abs

/- Each operation that is no call,as the code has it. -/
namespace Go.Abs
open Go

section
variable {P:Program} {F:Nat→FuncId} {B np:Nat} {w0 w w':World} {ext:List Nat} {σ0:Og} {G:Gh} {hp:Nat→Option (Bool×List D)} {tk:Nat→Option (Nat×Nat)}

theorem wI (m:Mem F B np w0 ext σ0 G hp tk w) {x:Value} {d:D} (hx:Rd F G tk x d) {id nn:Nat} (hn:0 < nn) (fr:Free hp tk id (id+nn)) {t:TypeId} (ht:P.underlying t=some .string) {v:D} {u:Upd}
  (hh:(aQ .iterStr id hp tk [d]).holds v u):Does F B np w0 ext σ0 G hp tk (((Instr.range t x).run P w).andThen fun v w=>.ok (.value v) w) id nn v u:=by
 cases d with
 | str s =>
  simp only [aQ] at hh
  obtain ⟨rfl,rfl⟩:=aT hh
  have:=hx.str_inv
  subst this
  have m1:=m.allocObj (.stringIter s 0)
  have hle:=eB m (fun _=>none)
  have hk:Keeps id (id+nn) G { σ:=aJ G.σ w.heap.size (fun _=>none),β:=fun j=>if j=id then w.heap.size else G.β j,ρ:=G.ρ,η:=G.η } tk tk :=
   ⟨hle,fun j hj=>by simp only; rw [if_neg (by omega)],fun _ z m _ e=>⟨z,m,e,Nat.le_refl _,fun _=>rfl⟩,fun _ _ _ _ e=>e⟩
  have m2:=m1.addObj id w.heap.size [.dead,.str s,.int .i64 0] (.stringIter s 0) (heap_alloc_new w _) (.inr (.inl ⟨s,0,rfl,rfl⟩)) (fun o=>by simp [aJ])
   (fun k hk=>by have:=m.own_lt (k:=k) (b:=w.heap.size) (by cases k <;> exact hk); omega) (.inl m.base) (fr.var ⟨Nat.le_refl _,by omega⟩)
   (fun id' f cs' h=>dB (fr.hp id' f cs' h).2 (Nat.le_refl _) (by omega))
  refine ⟨_,_,_,_,?_,.inl rfl,m2,.any (.cell (.ptr id 0)),hk⟩
  rw [run_range_string w t s ht]
  simp [World.iter]
 | _=>exact (aB hh).elim

theorem wO (m:Mem F B np w0 ext σ0 G hp tk w) {x:Value} {d:D} (hx:Rd F G tk x d) (id nn:Nat) (ty:TypeId) {v:D} {u:Upd}
  (hh:(aQ .nextStr id hp tk [d]).holds v u):Does F B np w0 ext σ0 G hp tk (((Instr.next x true ty).run P w).andThen fun v w=>.ok (.value v) w) id nn v u:=by
 cases d with
 | ptr i o =>
  cases o with
  | succ o=>exact (aB hh).elim
  | zero =>
   simp only [aQ] at hh
   unfold oH at hh
   split at hh
   ·rename_i s p hi
    have hxx:=hx.ptr_inv
    subst hxx
    obtain ⟨ob,hb,hob,hσ⟩:=m.vars i _ hi rfl
    rcases hob with ⟨h1,_⟩ | ⟨s',pos,rfl,h1⟩ | ⟨_,_,_,_,_,_,_,h1,_⟩
    rotate_right
    ·simp at h1
    ·simp [aG] at h1
    ·simp only [List.cons.injEq,D.str.injEq,D.int.injEq,true_and,and_true] at h1
     obtain ⟨rfl,rfl⟩:=h1
     rcases cP hh with ⟨hc,rfl,rfl⟩ | ⟨hc,rfl,rfl⟩
     ·have hlt:pos < s.size:=by
       simp only [Bool.and_eq_true,decide_eq_true_eq] at hc
       omega
      refine ⟨w.iterAt (G.β i) s (pos+(Utf8.decode s pos).2),_,_,G,?_,.inl rfl,m.setObj i _ _ hi (.stringIter s (pos+(Utf8.decode s pos).2)) ⟨rfl,rfl,rfl,Lib.iterAt_size _ _ _ _,fun k hk=>Lib.iterAt_other _ _ _ _ _ hk⟩
       (Lib.iterAt_heap w (G.β i) s pos _ hb) rfl (.inr (.inl ⟨s,_,rfl,?_⟩)),.tup #[.bool true,.int .i64 pos,.int .i32 (Utf8.decode s pos).1] _ (by simp) ?_,Keeps.refl _ _ _ _⟩
      ·rw [Lib.run_next_any_at w (G.β i) s pos ty hb hlt]
       rfl
      ·simp
      ·intro j hj
       simp only [Int.toNat_natCast]
       rcases j with _ | _ | _ | j
       ·exact .cell (.pure (.bool _) trivial)
       ·exact .cell (.pure (.int _ _) trivial)
       ·exact .cell (.pure (.int _ _) trivial)
       ·exfalso; simp only [List.length_cons,List.length_nil] at hj; omega
     ·have hlt:¬pos < s.size:=by
       intro h
       simp only [Bool.and_eq_false_iff,decide_eq_false_iff_not] at hc
       omega
      refine ⟨w,_,_,G,?_,.inl rfl,m,.tup #[.bool false] _ (by simp) ?_,Keeps.refl _ _ _ _⟩
      ·rw [Lib.run_next_end_at w (G.β i) s pos ty hb hlt]
       rfl
      ·intro j hj
       rcases j with _ | j
       ·exact .cell (.pure (.bool _) trivial)
       ·exfalso; simp only [List.length_cons,List.length_nil] at hj; omega
   ·exact (aB hh).elim
 | _=>exact (aB hh).elim
end

section
variable {P:Program} {F:Nat→FuncId} {B np:Nat} {w0 w w':World} {ext:List Nat} {σ0:Og} {G G':Gh} {s:St} {a:Act} {ft:FT}

abbrev cW (P:Program) (F:Nat→FuncId) (B np:Nat) (w0:World) (ext:List Nat) (σ0:Og) (G:Gh) (s:St) (w:World) (run:Result Next) (tr:Option (AOp×List AX)):Prop :=
 ∀ ao xs,tr=some (ao,xs)→c6 ao=false→∀ id,Clean id (id+bE ao) s→∀ v u,(aQ ao id s.hp s.tk (evs s.fr xs)).holds v u→Does F B np w0 ext σ0 G s.hp s.tk run id (bE ao) v u

theorem y0 {y:Operand} (h:qX y=true):y=.const (.pointer none):=by
 unfold qX at h
 split at h
 ·rfl
 ·cases h

theorem rP {op:BinOp} {p b:Bool} {a c:AX} {ao:AOp} {xs:List AX} (h:aBQ op p b [a,c]=some (ao,xs)):∃ neg,op=(if neg then .neq else .eql)∧ao=.isNil p neg∧xs=[a]∧b=true:=by
 simp only [aBQ] at h
 cases b with
 | false=>cases h
 | true =>
  simp only [cond_true] at h
  split at h
  ·cases h; exact ⟨false,rfl,rfl,rfl,rfl⟩
  ·cases h; exact ⟨true,rfl,rfl,rfl,rfl⟩
  ·cases h

theorem uC {t:TypeId} {g:Bool} {z:List D} (h:aEO P t=some (g,z)):∃ k e,P.underlying t=some (.map k e)∧P.underlying k=some .string∧x6 P e=some (g,z):=by
 unfold aEO at h
 split at h
 ·rename_i k e hu
  split at h
  ·rename_i hk
   exact ⟨k,e,hu,hk,h⟩
  ·cases h
 ·cases h

section ops
variable (hft:∀ f j,ag ft f=some j→F j=f) (r:Rel F B np w0 ext σ0 G s a w)
 include hft r

theorem aD2 (ty:TypeId) (x:Operand):cW P F B np w0 ext σ0 G s w (.ok (.value (a.eval x)) w) (vT P ft ty x):=by
 intro ao xs ht _ id hcl v u hh
 unfold vT at ht
 split at ht
 ·rename_i hx
  have:=mA hx
  subst this
  rw [Option.map_eq_some_iff] at ht
  obtain ⟨z,_,h⟩:=ht
  cases h
  exact aAK r.mem (by simp [bE]) hcl.free z hh
 ·rw [Option.map_eq_some_iff] at ht
  obtain ⟨ax,h1,h⟩:=ht
  cases h
  exact aCY r.mem (vV (aY hft r h1) _) _ _ hh

theorem aGA (t:TypeId):cW P F B np w0 ext σ0 G s w (((Instr.alloc t true (.tuple #[])).run P w).andThen fun v w=>.ok (.value v) w) (uY P t):=by
 have _:=hft
 intro ao xs ht _ id hcl v u hh
 unfold uY at ht
 split at ht
 ·rename_i ds n hz hs
  split at ht
  ·cases ht
   obtain ⟨i,zv,hi,hzv,hds⟩:=fR hz
   exact aAC r.mem t hi hzv hds _ rfl (yU _ _) hcl.free hh
  ·cases ht
 ·cases ht

theorem aFQ (t:TypeId) (parts:Array (Nat×Operand)):cW P F B np w0 ext σ0 G s w (((Instr.build t (parts.map fun (i,x)=>(i,a.eval x))).run P w).andThen fun v w=>.ok (.value v) w) (vU P ft t parts):=by
 intro ao xs ht _ id hcl v u hh
 unfold vU at ht
 split at ht
 ·rename_i fs z l hu hz hx
  split at ht
  ·rename_i hsz
   rw [Option.map_eq_some_iff] at ht
   obtain ⟨qs,h1,h⟩:=ht
   cases h
   obtain ⟨i,zv,hi,hzv,hds⟩:=fR hz
   obtain ⟨places,h2,h3⟩:=oV fs.toList hsz
   refine sW (place:=(places.toArray[·]?)) r.mem _ qs _ hi hzv hds (fun cells hf=>?_) ?_ hh
   ·simp only [Program.built,hi,hu,hzv,h2]
    exact hf
   ·rw [Array.toList_map]
    refine l4 hft r (fun i q hq=>?_) parts.toList qs _ h1 hx
    have:=h3 i
    simp only [List.getElem?_toArray]
    rw [this,← hq,Array.getElem?_toList]
    all_goals (cases fs[i]? <;> rfl)
  ·cases ht
 ·rename_i n e z l hu hz hx
  split at ht
  ·rename_i n hn
   rw [Option.map_eq_some_iff] at ht
   obtain ⟨qs,h1,h⟩:=ht
   cases h
   obtain ⟨i,zv,hi,hzv,hds⟩:=fR hz
   obtain ⟨ie,hie,rfl⟩:=mL hn
   have hpr:jY F G s.tk (fun k=>some (k * ie.size,ie.size)) (parts.map fun (i,x)=>(i,a.eval x)).toList qs (evs s.fr xs):=by
    rw [Array.toList_map]
    exact l4 hft r (fun i q hq=>hq) parts.toList qs xs h1 hx
   have hbu:∀ cells,Instr.fill (fun k=>some (k * ie.size,ie.size)) zv.cells (parts.map fun (i,x)=>(i,a.eval x)).toList=some cells→P.built t (parts.map fun (i,x)=>(i,a.eval x)).toList=some cells:=by
    intro cells hf
    simp only [Program.built,hi,hu,hzv,hie]
    exact hf
   exact sW r.mem _ qs (evs s.fr xs) hi hzv hds hbu hpr hh
  ·cases ht
 ·cases ht

theorem vR (t:TypeId) (len:Nat) (parts:Array (Nat×Operand)):cW P F B np w0 ext σ0 G s w (((Instr.buildSlice t len (parts.map fun (i,x)=>(i,a.eval x))).run P w).andThen fun v w=>.ok (.value v) w) (jW P ft t len parts):=by
 intro ao xs ht _ id hcl v u hh
 unfold jW at ht
 split at ht
 ·rename_i e l hu hx
  split at ht
  ·rename_i n z hs hz
   split at ht
   ·rename_i hb
    rw [Option.map_eq_some_iff] at ht
    obtain ⟨qs,h1,h⟩:=ht
    cases h
    obtain ⟨i,zv,hi,hzv,hds⟩:=fR hz
    obtain ⟨i',hi',rfl⟩:=mL hs
    rw [hi] at hi'
    cases hi'
    have hpr:jY F G s.tk (fun k=>some (k * i.size,i.size)) (parts.map fun (i,x)=>(i,a.eval x)).toList qs (evs s.fr xs):=by
     rw [Array.toList_map]
     exact l4 hft r (fun i q hq=>hq) parts.toList qs xs h1 hx
    exact qJ r.mem _ qs (evs s.fr xs) hu hi hzv hds hb.2 hb.1 hpr hh
   ·cases ht
  ·cases ht
 ·cases ht

theorem aGL (t:TypeId) (x:Operand):cW P F B np w0 ext σ0 G s w (((Instr.loadAt t (a.eval x)).run P w).andThen fun v w=>.ok (.value v) w) (aAW P ft t x):=by
 intro ao xs ht _ id hcl v u hh
 unfold aAW at ht
 split at ht
 ·rename_i ax g n h1 h2 h3
  split at ht
  ·rename_i hgn
   cases ht
   exact aCW r.mem (aY hft r h1) _ _ h2 h3 hgn hh
  ·cases ht
 ·cases ht

theorem aFL (t:TypeId) (x y:Operand):cW P F B np w0 ext σ0 G s w (((Instr.storeAt t (a.eval x) (a.eval y)).run P w).andThen fun _ w=>.ok .skip w) (uZ P ft t x y):=by
 intro ao xs ht _ id hcl v u hh
 unfold uZ at ht
 split at ht
 ·rename_i ax ay n h1 h2 h3
  cases ht
  exact aAJ r.mem (aY hft r h1) (vV (aY hft r h2) _) _ _ h3 hh
 ·cases ht

theorem yO (st:TypeId) (x:Operand) (f:Nat):cW P F B np w0 ext σ0 G s w (((Instr.fieldAt st (a.eval x) f).run P w).andThen fun v w=>.ok (.value v) w) (kP P ft st x f):=by
 intro ao xs ht _ id hcl v u hh
 unfold kP at ht
 split at ht
 ·rename_i fs ax hu h1
  split at ht
  ·rename_i fl hf
   split at ht
   ·rename_i n hn
    split at ht
    ·cases ht
    ·rename_i h0
     cases ht
     exact rK r.mem (aY hft r h1) _ _ hu hf hn h0 hh
   ·cases ht
  ·cases ht
 ·cases ht

theorem aFP (st:TypeId) (x:Operand) (f:Nat):cW P F B np w0 ext σ0 G s w (((Instr.field st (a.eval x) f).run P w).andThen fun v w=>.ok (.value v) w) (vC P ft st x f):=by
 intro ao xs ht _ id hcl v u hh
 unfold vC at ht
 split at ht
 ·rename_i fs ax hu h1
  split at ht
  ·rename_i fl hf
   split at ht
   ·rename_i g n hg hn
    split at ht
    ·rename_i hgn
     cases ht
     exact aAO r.mem (aY hft r h1) _ _ hu hf hg hn hgn hh
    ·cases ht
   ·cases ht
  ·cases ht
 ·cases ht

theorem w9 (t:TypeId) (x i:Operand):cW P F B np w0 ext σ0 G s w (((Instr.indexAt t (a.eval x) (a.eval i)).run P w).andThen fun v w=>.ok (.value v) w) (kL P ft t x i):=by
 intro ao xs ht _ id hcl v u hh
 unfold kL at ht
 split at ht
 ·rename_i e ax ai hu h1 h2
  rw [Option.map_eq_some_iff] at ht
  obtain ⟨k,hk,h⟩:=ht
  cases h
  exact kH r.mem (aY hft r h1) (aY hft r h2) _ _ hu hk hh
 ·rename_i len e ax ai hu h1 h2
  rw [Option.map_eq_some_iff] at ht
  obtain ⟨k,hk,h⟩:=ht
  cases h
  exact mP r.mem (aY hft r h1) (aY hft r h2) _ _ hu hk hh
 ·cases ht

theorem aFH (t:TypeId) (x i:Operand):cW P F B np w0 ext σ0 G s w (((Instr.index t (a.eval x) (a.eval i)).run P w).andThen fun v w=>.ok (.value v) w) (vN P ft t x i):=by
 intro ao xs ht _ id hcl v u hh
 unfold vN at ht
 split at ht
 ·rename_i ax ai hu h1 h2
  cases ht
  exact tI r.mem (aY hft r h1) (aY hft r h2) _ _ hu hh
 ·rename_i len e ax ai hu h1 h2
  split at ht
  ·rename_i g n hg hn
   split at ht
   ·rename_i hgn
    cases ht
    exact sZ r.mem (aY hft r h1) (aY hft r h2) _ _ hu hg hn hgn hh
   ·cases ht
  ·cases ht
 ·cases ht

theorem aF2 (t:TypeId) (x:Operand) (lo hi mx:Option Operand):cW P F B np w0 ext σ0 G s w (((Instr.sliceAt t (a.eval x) (lo.map a.eval) (hi.map a.eval) (mx.map a.eval)).run P w).andThen fun v w=>.ok (.value v) w) (vP P ft np t x lo hi mx):=by
 intro ao xs ht _ id hcl v u hh
 unfold vP at ht
 split at ht
 ·rename_i e ax l hu h1 hl
  obtain ⟨l1,hl1,o1⟩:=iV hft r hl
  obtain ⟨l2,hl2,o2⟩:=iV hft r hl1
  obtain ⟨l3,hl3,o3⟩:=iV hft r hl2
  have:=xQ hl3
  subst this
  split at ht
  ·cases ht
  ·rename_i hmx
   rw [Option.map_eq_some_iff] at ht
   obtain ⟨k,hk,h⟩:=ht
   cases h
   refine wB r.mem (aY hft r h1) o1 o2 o3 (fun h=>?_) _ _ hu hk hh
   cases hi <;> simp_all
 ·rename_i ax l hu h1 hl
  obtain ⟨l1,hl1,o1⟩:=iV hft r hl
  obtain ⟨l2,hl2,o2⟩:=iV hft r hl1
  obtain ⟨l3,hl3,o3⟩:=iV hft r hl2
  have:=xQ hl3
  subst this
  split at ht
  ·cases ht
  ·rename_i hmx
   cases ht
   have hm0:mx=none:=by cases mx <;> simp_all
   subst hm0
   have e2:evs s.fr l2=[]:=by
    have:l2=[]:=by simpa [wX] using hl2.symm
    rw [this]
    rfl
   rw [e2] at o2
   exact tL r.mem (aY hft r h1) o1 o2 _ _ hu hh
 ·rename_i len e ax l hu h1 hl
  split at ht
  ·rename_i hno
   rw [Option.map_eq_some_iff] at ht
   obtain ⟨k,hk,h⟩:=ht
   cases h
   simp only [Bool.and_eq_true,Option.isNone_iff_eq_none] at hno
   obtain ⟨⟨rfl,rfl⟩,rfl⟩:=hno
   exact tP r.mem (aY hft r h1) _ _ hu hk hh
  ·cases ht
 ·cases ht

theorem aHC (op:BinOp) (t:TypeId) (x y:Operand):cW P F B np w0 ext σ0 G s w (((do eqGuard op t x y (a.eval x) (a.eval y); binOp op t (a.eval x) (a.eval y):Sem Value).run P w).andThen fun v w=>.ok (.value v) w) (aEI P ft op t x y):=by
 intro ao xs ht _ id hcl v u hh
 unfold aEI at ht
 split at ht
 ·rename_i l hx
  obtain ⟨p,q,rfl,e1,e2⟩:=aB2 hx
  have agg:bH P t=some true→aF0 P op t [p,q]=some (ao,xs)→Does F B np w0 ext σ0 G s.hp s.tk (((do eqGuard op t x y (a.eval x) (a.eval y); binOp op t (a.eval x) (a.eval y):Sem Value).run P w).andThen fun v w=>.ok (.value v) w) id (bE ao) v u:=by
   intro hag h
   unfold aF0 at h
   split at h
   ·rename_i n hn
    split at hn
    ·cases hn
    ·rename_i hg
     split at h
     ·cases h
      exact sR r.mem (aY hft r e1) (aY hft r e2) _ _ false (by simpa using hg) hn hag hh
     ·cases h
   ·rename_i n hn
    split at hn
    ·cases hn
    ·rename_i hg
     split at h
     ·cases h
      exact sR r.mem (aY hft r e1) (aY hft r e2) _ _ true (by simpa using hg) hn hag hh
     ·cases h
   ·cases h
  split at ht
  ·rename_i fs hu
   exact agg (by simp [bH,hu]) ht
  ·rename_i n e hu
   exact agg (by simp [bH,hu]) ht
  ·rename_i hu
   split at ht
   ·cases ht
    exact uA r.mem (aY hft r e1) (aY hft r e2) _ _ false hu (ox:=x) (oy:=y) hh
   ·cases ht
    exact uA r.mem (aY hft r e1) (aY hft r e2) _ _ true hu (ox:=x) (oy:=y) hh
   ·cases ht
  ·cases ht
   exact xA r.mem (aY hft r e1) (aY hft r e2) _ _ op (t:=t) (ox:=x) (oy:=y) hh
  ·cases ht
   exact xA r.mem (aY hft r e1) (aY hft r e2) _ _ op (t:=t) (ox:=x) (oy:=y) hh
  ·rename_i e hu
   obtain ⟨neg,rfl,rfl,rfl,hy⟩:=rP ht
   have:=mA hy
   subst this
   exact yY r.mem (aY hft r e1) _ _ neg hu (ox:=x) (oy:=.const (.slice none 0 0)) hh
  ·rename_i e hu
   obtain ⟨neg,rfl,rfl,rfl,hy⟩:=rP ht
   have:=y0 hy
   subst this
   exact zL r.mem (aY hft r e1) _ _ neg hu (ox:=x) (oy:=.const (.pointer none)) hh
  ·cases ht
 ·cases ht

theorem aGP (src dst:TypeId) (x:Operand):cW P F B np w0 ext σ0 G s w (((convert src dst (a.eval x)).run P w).andThen fun v w=>.ok (.value v) w) (aAG P ft src dst x):=by
 intro ao xs ht _ id hcl v u hh
 unfold aAG at ht
 split at ht
 ·rename_i ks kd ax hs hd h1
  cases ht
  exact vE r.mem (aY hft r h1) _ _ hs hd hh
 ·rename_i ax hs hd h1
  cases ht
  exact vA r.mem (aY hft r h1) _ _ hs hd hh
 ·rename_i k ax hs hd h1
  cases ht
  exact tA r.mem (aY hft r h1) _ _ hs hd hh
 ·rename_i e ax hs hd h1
  split at ht
  ·rename_i he
   cases ht
   exact aDT r.mem (aY hft r h1) _ _ hs hd he hh
  ·cases ht
 ·rename_i e ax hs hd h1
  split at ht
  ·rename_i he
   cases ht
   exact aDN r.mem (aY hft r h1) _ _ hs he hd hh
  ·cases ht
 ·cases ht

theorem aBC (fn:Fn) (first caps:Array Operand):cW P F B np w0 ext σ0 G s w (.ok (.value (.func fn (first.map a.eval) (caps.map a.eval))) w) (mZ ft np fn first caps):=by
 intro ao xs ht _ id hcl v u hh
 unfold mZ at ht
 split at ht
 ·rename_i f
  split at ht
  ·rename_i hemp
   split at ht
   ·rename_i j cs hj hcs
    cases ht
    obtain ⟨h1,h2,h3⟩:=zS hft r hcs
    have:=hft f j hj
    subst this
    have hd:=x3 r.mem (evs s.fr xs) (caps.map a.eval) (by rw [h2,← h1]; simp) (fun k hk=>by
     have:=h3 k (by omega)
     rw [bA,Array.toList_map]
     exact this) id (bE (.mkfunc j np)) j hh
    have hf:first.map a.eval=#[]:=by
     have:first=#[]:=by simpa using hemp
     subst this
     simp
    rw [hf]
    exact hd
   ·cases ht
  ·cases ht
 ·cases ht

theorem xC (t:TypeId) (l c:Operand):cW P F B np w0 ext σ0 G s w (((Instr.makeSlice t (a.eval l) (a.eval c)).run P w).andThen fun v w=>.ok (.value v) w) (lB P ft t l c):=by
 intro ao xs ht _ id hcl v u hh
 unfold lB at ht
 split at ht
 ·rename_i e hu
  split at ht
  ·rename_i i z as hi hz hx
   split at ht
   ·rename_i hb
    cases ht
    obtain ⟨p,q,rfl,e1,e2⟩:=aB2 hx
    obtain ⟨i',zv,hi',hzv,hds⟩:=fR hz
    rw [hi] at hi'
    cases hi'
    exact rC r.mem (aY hft r e1) (aY hft r e2) (by simp [bE]) hcl.free hu hi hzv hds hb.2.1 hb.1 hb.2.2 hh
   ·cases ht
  ·cases ht
 ·cases ht

theorem aHF (x:Operand) (t ty:TypeId):cW P F B np w0 ext σ0 G s w (((Builtin.len_ #[t] ty #[a.eval x]).run P w).andThen fun v w=>.ok (.value v) w) (aBK P ft x t):=by
 intro ao xs ht _ id hcl v u hh
 unfold aBK at ht
 split at ht
 ·rename_i e ax hu h1
  cases ht
  exact xV r.mem (aY hft r h1) _ _ hh ⟨_,hu⟩
 ·rename_i ax hu h1
  cases ht
  exact xV r.mem (aY hft r h1) _ _ hh hu
 ·rename_i k e ax hu h1
  cases ht
  exact xI r.mem (aY hft r h1) _ _ hu hh
 ·cases ht

theorem aE1 (x y:Operand) (t u' ty:TypeId):cW P F B np w0 ext σ0 G s w (((Builtin.append_ #[t,u'] ty #[a.eval x,a.eval y]).run P w).andThen fun v w=>.ok (.value v) w) (oS P ft x y t u'):=by
 intro ao xs ht _ id hcl v u hh
 unfold oS at ht
 split at ht
 ·rename_i e du l hu hu' hx
  split at ht
  ·rename_i i z hk hi hz
   split at ht
   ·rename_i hb
    cases ht
    obtain ⟨p,q,rfl⟩:=aF5 hx
    obtain ⟨i',zv,hi',hzv,hds⟩:=fR hz
    rw [hi] at hi'
    cases hi'
    obtain ⟨h1,h2,h3⟩:=pF hft r hx
    exact yX r.mem hu hu' hk hi hzv hds hb.2.1 hb.2.2 (h3 0 (by simp)) (h3 1 (by simp)) (by simp [bE]) hcl.free hh
   ·cases ht
  ·cases ht
 ·cases ht

theorem aCT (b:Builtin) (args:Array Operand) (ts:Array TypeId) (ty:TypeId) (consts:Array Bool):cW P F B np w0 ext σ0 G s w ((builtin b ts ty consts (args.map a.eval)).run P w) (lP P ft b args.toList ts.toList):=by
 intro ao xs ht hnc id hcl v u hh
 unfold lP at ht
 split at ht
 ·rename_i x t ha hts
  have ha:args=#[x]:=by rw [← Array.toArray_toList (xs:=args),ha]
  have hts:ts=#[t]:=by rw [← Array.toArray_toList (xs:=ts),hts]
  subst ha hts
  have:=aHF hft r x t ty ao xs ht hnc id hcl v u hh
  rw [show #[a.eval x]=Array.map a.eval #[x] from by simp] at this
  simpa only [builtin,Sem.run_bind,Sem.run_pure] using this
 ·rename_i x y t u' ha hts
  have ha:args=#[x,y]:=by rw [← Array.toArray_toList (xs:=args),ha]
  have hts:ts=#[t,u']:=by rw [← Array.toArray_toList (xs:=ts),hts]
  subst ha hts
  have:=aE1 hft r x y t u' ty ao xs ht hnc id hcl v u hh
  rw [show #[a.eval x,a.eval y]=Array.map a.eval #[x,y] from by simp] at this
  simpa only [builtin,Sem.run_bind,Sem.run_pure] using this
 ·rename_i _ x y ha
  have ha:args=#[x,y]:=by rw [← Array.toArray_toList (xs:=args),ha]
  subst ha
  rw [Option.map_eq_some_iff] at ht
  obtain ⟨l,hx,h⟩:=ht
  cases h
  obtain ⟨p,q,rfl,e1,e2⟩:=aB2 hx
  have:=uN r.mem (aY hft r e1) (aY hft r e2) id (bE (.mnmx true)) true (at_:=ts) (ty:=ty) (P:=P) hh
  rw [show #[a.eval x,a.eval y]=Array.map a.eval #[x,y] from by simp] at this
  simpa only [builtin,Sem.run_bind,Sem.run_pure,if_true,Bool.false_eq_true,if_false] using this
 ·rename_i _ x y ha
  have ha:args=#[x,y]:=by rw [← Array.toArray_toList (xs:=args),ha]
  subst ha
  rw [Option.map_eq_some_iff] at ht
  obtain ⟨l,hx,h⟩:=ht
  cases h
  obtain ⟨p,q,rfl,e1,e2⟩:=aB2 hx
  have:=uN r.mem (aY hft r e1) (aY hft r e2) id (bE (.mnmx false)) false (at_:=ts) (ty:=ty) (P:=P) hh
  rw [show #[a.eval x,a.eval y]=Array.map a.eval #[x,y] from by simp] at this
  simpa only [builtin,Sem.run_bind,Sem.run_pure,if_true,Bool.false_eq_true,if_false] using this
 ·cases ht

theorem aEJ (c:Call) (ty:TypeId):cW P F B np w0 ext σ0 G s w ((do let d ← resolve a.eval c ty; invoke d.target d.args:Sem Next).run P w) (oX P ft np c):=by
 intro ao xs ht hnc id hcl v u hh
 obtain ⟨callee,args,ts⟩:=c
 unfold oX at ht
 split at ht
 ·split at ht
  ·cases ht
   cases hnc
  ·cases ht
 ·rw [Option.map_eq_some_iff] at ht
  obtain ⟨l,_,h⟩:=ht
  cases h
  cases hnc
 ·rename_i b hb
  simp only at hb
  subst hb
  simp only [resolve,invoke,Sem.run_bind,Sem.run_pure,Result.andThen_ok]
  exact aCT hft r b args ts ty _ ao xs ht hnc id hcl v u hh
 ·cases ht

theorem xW (t:TypeId) (x y z:Operand):cW P F B np w0 ext σ0 G s w (((Instr.mapUpdate t (a.eval x) (a.eval y) (a.eval z)).run P w).andThen fun _ w=>.ok .skip w) (nQ P ft t x y z):=by
 intro ao xs ht _ id hcl v u hh
 unfold nQ at ht
 split at ht
 ·rename_i p ax ay az hm h1 h2 h3
  cases ht
  obtain ⟨k,e,hu,hk,he⟩:=uC (g:=p.1) (z:=p.2) hm
  exact y9 r.mem (aY hft r h1) (aY hft r h2) (vV (aY hft r h3) _) _ _ hu hk hh
 ·cases ht

end ops

theorem aD6 (hft:∀ f j,ag ft f=some j→F j=f) (r:Rel F B np w0 ext σ0 G s a w) (o:Oper):cW P F B np w0 ext σ0 G s w ((execOp a.eval o).run P w) (aBX P ft np o):=by
 cases hop:o.op <;> simp only [aBX,execOp,hop,Sem.run_bind,Sem.run_pure]
 case move x=>exact aD2 hft r _ x
 case assign x=>exact aD2 hft r _ x
 case alloc t=>exact aGA hft r t
 case build t parts=>exact aFQ hft r t parts
 case buildSlice t len parts=>exact vR hft r t len parts
 case load t x=>exact aGL hft r t x
 case store t x y=>exact aFL hft r t x y
 case binOp op t x y ty=>simpa only [Sem.run_bind] using aHC hft r op t x y
 case convert src dst x=>exact aGP hft r src dst x
 case makeFunc fn first caps =>
  simp only [Instr.makeFunc,Sem.run_pure,Result.andThen_ok]
  exact aBC hft r fn first caps
 case makeSlice t l c=>exact xC hft r t l c
 case slice t x lo hi mx=>exact aF2 hft r t x lo hi mx
 case fieldAddr st x f=>exact yO hft r st x f
 case field st x f=>exact aFP hft r st x f
 case indexAddr t x i=>exact w9 hft r t x i
 case index t x i=>exact aFH hft r t x i
 case call c=>simpa only [Sem.run_bind] using aEJ hft r c o.type
 case pick c x y =>
  intro ao xs ht _ id hcl v u hh
  rw [Option.map_eq_some_iff] at ht
  obtain ⟨l,h1,h⟩:=ht
  cases h
  obtain ⟨p,q,t,rfl,e1,e2,e3⟩:=aG7 h1
  exact aCC r.mem (aY hft r e1) (aY hft r e2) (aY hft r e3) _ _ hh
 case box t x =>
  intro ao xs ht _ id hcl v u hh
  rw [Option.map_eq_some_iff] at ht
  obtain ⟨ax,h1,h⟩:=ht
  cases h
  exact aES r.mem (aY hft r h1) (by simp [bE]) hcl.free (aEL hcl h1) t hh
 case nilCheck x =>
  intro ao xs ht _ id hcl v u hh
  rw [Option.map_eq_some_iff] at ht
  obtain ⟨ax,h1,h⟩:=ht
  cases h
  obtain ⟨b,o',hx,hd⟩:=tF r.mem (aY hft r h1) id _ hh
  rw [hx] at hd ⊢
  exact hd
 case unOp op t x =>
  intro ao xs ht _ id hcl v u hh
  rw [Option.map_eq_some_iff] at ht
  obtain ⟨ax,h1,h⟩:=ht
  cases h
  exact aF7 r.mem (aY hft r h1) _ _ op hh
 case extract x i =>
  intro ao xs ht _ id hcl v u hh
  rw [Option.map_eq_some_iff] at ht
  obtain ⟨ax,h1,h⟩:=ht
  cases h
  exact vQ r.mem (aY hft r h1) _ _ i hh
 case makeMap t x =>
  intro ao xs ht _ id hcl v u hh
  unfold tW at ht
  split at ht
  ·cases ht
   exact zZ r.mem (by simp [bE]) hcl.free t _ hh
  ·cases ht
 case mapUpdate t x y z=>exact xW hft r t x y z
 case insert t x y z=>exact xW hft r t x y z
 case lookup t x y c =>
  intro ao xs ht _ id hcl v u hh
  unfold zM at ht
  split at ht
  ·rename_i g z ax ay hm h1 h2
   cases ht
   obtain ⟨k,e,hu,hk,he⟩:=uC hm
   exact zR r.mem (aY hft r h1) (aY hft r h2) _ _ hu hk c he hh
  ·cases ht
 case range t x =>
  intro ao xs ht _ id hcl v u hh
  unfold aB5 at ht
  split at ht
  ·rename_i ax hu h1
   cases ht
   exact wI r.mem (aY hft r h1) (by simp [bE]) hcl.free hu hh
  ·cases ht
 case next x isS =>
  intro ao xs ht _ id hcl v u hh
  cases isS with
  | false=>cases ht
  | true =>
   simp only [cond_true,Option.map_eq_some_iff] at ht
   obtain ⟨ax,h1,h⟩:=ht
   cases h
   exact wO r.mem (aY hft r h1) _ _ _ hh
 all_goals
  intro ao xs ht
  cases ht

theorem s6 {t:Option (AOp×List AX)} {ao:AOp} {xs:List AX} (h:wT t=some (ao,xs)):t=some (ao,xs)∨(ao=.stuck∧xs=[]):=by
 unfold wT at h
 split at h
 ·exact .inl h
 ·cases h
  exact .inr ⟨rfl,rfl⟩

theorem rM {o:Oper} {ao:AOp} {xs:List AX} (h:aA0 P ft np o=some (ao,xs)):(∃ c,o.op=.call c∧oX P ft np c=some (ao,xs))∨(aBX P ft np o=some (ao,xs)∧c6 ao=false)∨(ao=.stuck∧xs=[]):=by
 unfold aA0 at h
 split at h
 ·rename_i c hc
  rcases s6 h with h | h
  ·exact .inl ⟨c,hc,h⟩
  ·exact .inr (.inr h)
 ·split at h
  ·rename_i p hp
   cases hi:c6 p.1 with
   | true=>rw [hi] at h; cases h
   | false =>
    rw [hi] at h
    cases h
    exact .inr (.inl ⟨hp,hi⟩)
  ·cases h
   exact .inr (.inr ⟨rfl,rfl⟩)

theorem aFS (hft:∀ f j,ag ft f=some j→F j=f) (r:Rel F B np w0 ext σ0 G s a w) (o:Oper):cW P F B np w0 ext σ0 G s w ((execOp a.eval o).run P w) (aA0 P ft np o):=by
 intro ao xs ht hnc
 rcases rM ht with ⟨c,hc,h⟩ | ⟨h,_⟩ | ⟨rfl,rfl⟩
 ·have h1:=aEJ hft r c o.type ao xs h hnc
  simp only [Sem.run_bind] at h1
  simpa only [execOp,hc,Sem.run_bind] using h1
 ·exact aD6 hft r o ao xs h hnc
 ·intro id hcl v u hh
  exact (aB hh).elim

end
end Go.Abs

/- Numbers: an operation names none that is not given out yet. -/
namespace Go.Abs
open Go

section
variable {P:Program} {ft:FT} {np:Nat} {hp:Nat→Option (Bool×List D)} {tk:Nat→Option (Nat×Nat)} {lo hi id:Nat}

theorem aS {l:List D}:names lo hi l=false↔∀ d∈l,d.names1 lo hi=false:=by
 induction l with
 | nil=>simp [names]
 | cons d l ih =>
  simp only [names,List.mem_cons,forall_eq_or_imp]
  cases d.names1 lo hi with
  | true=>simp
  | false=>simp [ih]

theorem a6 {lo hi j:Nat} (h:¬(lo≤j∧j < hi)):(Nat.ble lo j&&Nat.blt j hi)=false:=by
 cases hh:(Nat.ble lo j&&Nat.blt j hi) with
 | false=>rfl
 | true =>
  simp only [Bool.and_eq_true,Nat.ble_eq,Nat.blt_eq] at hh
  exact absurd hh h

theorem uW {l:List D} {i:Nat} {a d:D} (h:d∈upd l i a):d=a∨d∈l:=by
 induction l generalizing i with
 | nil=>simp [upd] at h
 | cons e l ih =>
  cases i with
  | zero =>
   simp only [upd,List.mem_cons] at h
   rcases h with h | h
   ·exact .inl h
   ·exact .inr (List.mem_cons_of_mem _ h)
  | succ i =>
   simp only [upd,List.mem_cons] at h
   rcases h with h | h
   ·exact .inr (by simp [h])
   ·rcases ih h with h | h
    ·exact .inl h
    ·exact .inr (List.mem_cons_of_mem _ h)

theorem jU {ds:List D}:∀ {cs:List D} {o:Nat} {d:D},d∈c9 cs o ds→d∈cs∨d∈ds:=by
 induction ds with
 | nil=>intro cs o d h; exact .inl h
 | cons a ds ih =>
  intro cs o d h
  simp only [c9] at h
  rcases ih h with h | h
  ·rcases uW h with h | h
   ·exact .inr (by simp [h])
   ·exact .inl h
  ·exact .inr (List.mem_cons_of_mem _ h)

theorem d7 (d:D):d.pure1.names1 lo hi=false:=by cases d <;> rfl

theorem fJ {l:List D} {d:D} (h:d∈aI l):∃ e∈l,d=e.pure1:=by
 induction l with
 | nil=>simp [aI] at h
 | cons a l ih =>
  simp only [aI,List.mem_cons] at h
  rcases h with h | h
  ·exact ⟨a,by simp,h⟩
  ·obtain ⟨e,h1,h2⟩:=ih h
   exact ⟨e,List.mem_cons_of_mem _ h1,h2⟩

theorem aB9 {l:List D} {d:D} (h:d∈ros l):∃ e∈l,d=e.ro1:=by
 induction l with
 | nil=>simp [ros] at h
 | cons a l ih =>
  simp only [ros,List.mem_cons] at h
  rcases h with h | h
  ·exact ⟨a,by simp,h⟩
  ·obtain ⟨e,h1,h2⟩:=ih h
   exact ⟨e,List.mem_cons_of_mem _ h1,h2⟩

theorem aCG {d:D} (h:d.names1 lo hi=false):d.ro1.names1 lo hi=false:=by
 cases d with
 | slice t z n g=>cases t <;> rfl
 | _=>exact h

theorem cX (l:List D):names lo hi (aI l)=false:=aS.2 fun d hd=>by
 obtain ⟨e,_,rfl⟩:=fJ hd
 exact d7 e

theorem aCH {l:List D} (h:names lo hi l=false):names lo hi (ros l)=false:=aS.2 fun d hd=>by
 obtain ⟨e,he,rfl⟩:=aB9 hd
 exact aCG (aS.1 h e he)

theorem aCX {d:D} (h:d.names lo hi=false):d.names1 lo hi=false:=by
 cases d with
 | agg l=>rfl
 | tup l=>rfl
 | _=>exact h

theorem oW {l:List D} {j:Nat}:nth l j .dead∈l∨nth l j .dead=.dead:=by
 by_cases hj:j < l.length
 ·exact .inl (by rw [cR l _ hj]; exact List.getElem_mem hj)
 ·exact .inr (gS l _ (Nat.le_of_not_lt hj))

theorem zG:∀ {qs:List (Nat×Nat)} {xs cells l:List D},fill cells qs xs=some l→∀ d∈l,d∈cells∨∃ x∈xs,d∈x.cells
 | [],[],cells,l,h,d,hd=>by cases h; exact .inl hd
 | [],_::_,_,_,h,_,_=>by simp [fill] at h
 | _::_,[],_,_,h,_,_=>by simp [fill] at h
 | (off,size)::qs,x::xs,cells,l,h,d,hd=>by
  simp only [fill] at h
  cases hb:(aG x.cells&&Nat.beq x.cells.length size&&Nat.ble (off+size) cells.length) with
  | false=>rw [hb] at h; cases h
  | true =>
   rw [hb] at h
   rcases zG h d hd with h1 | ⟨y,h1,h2⟩
   ·rcases jU h1 with h3 | h3
    ·exact .inl h3
    ·exact .inr ⟨x,by simp,h3⟩
   ·exact .inr ⟨y,List.mem_cons_of_mem _ h1,h2⟩

def Cell:D→Prop
 | .agg _=>False
 | .tup _=>False
 | _=>True

theorem Cell.names {d:D} (h:Cell d) (h1:d.names1 lo hi=false):d.names lo hi=false:=by
 cases d <;> first | exact h1 | exact h.elim

theorem d5 (d:D):Cell d.pure1:=by cases d <;> trivial

def wY (lo hi:Nat):D→Prop
 | .agg l=>∀ e∈l,Cell e
 | .tup l=>∀ e∈l,match e with
  | .agg c=>names lo hi c=false
  | .tup _=>False
  | _=>True
 | _=>True

theorem hQ {l:List D} (h:aG l=true):∀ e∈l,Cell e:=by
 induction l with
 | nil=>simp
 | cons d l ih =>
  intro e he
  simp only [List.mem_cons] at he
  rcases he with rfl | he
  ·cases e <;> first | trivial | simp [aG] at h
  ·refine ih ?_ e he
   cases d <;> first | exact h | simp [aG] at h

theorem bT {g:Bool} {n:Nat} {l:List D} {v:D} {u:Upd} (h:(bP g n l).holds v u) (h1:names lo hi l=false) (h2:∀ e∈l,Cell e):v.names lo hi=false∧u=Upd.none:=by
 unfold bP at h
 cases hb:Nat.ble n l.length with
 | false=>rw [hb] at h; exact (aB h).elim
 | true =>
  rw [hb] at h
  obtain ⟨rfl,rfl⟩:=aD h
  refine ⟨?_,rfl⟩
  have h3:names lo hi (l.take n)=false:=aS.2 fun d hd=>aS.1 h1 d (List.mem_of_mem_take hd)
  cases g with
  | true=>exact h3
  | false =>
   simp only [mkv,cond_false]
   rcases oW (l:=l.take n) (j:=0) with h4 | h4
   ·exact (h2 _ (List.mem_of_mem_take h4)).names (aS.1 h3 _ h4)
   ·rw [h4]; rfl

theorem jR {l:List D} (h:names lo hi l=false) (n:Nat):names lo hi (l.drop n)=false:=aS.2 fun d hd=>aS.1 h d (List.mem_of_mem_drop hd)

theorem qA:∀ (l:List D) (i:Nat),(∀ d∈l,(∃ t z n g,d=.slice t z n g)∨d.names1 lo hi=false)→(∀ d∈l,∀ j z n g,d=.slice (.own j) z n g→True)→(i+l.length≤lo∨hi≤i)→names lo hi (bW l i)=false∧∀ x∈aR l i,¬(lo≤x.1∧x.1 < hi)
 | [],i,_,_,_=>⟨rfl,fun x hx=>by simp [aR] at hx⟩
 | d::l,i,h,h',hl=>by
  simp only [List.length_cons] at hl
  obtain ⟨e1,e2⟩:=qA l (i+1) (fun d hd=>h d (List.mem_cons_of_mem _ hd)) (fun _ _ _ _ _ _ _=>trivial) (by omega)
  have h0:=h d (by simp)
  have other:d.names1 lo hi=false→names lo hi (d::bW l (i+1))=false:=fun hd=>aS.2 fun x hx=>by
   simp only [List.mem_cons] at hx
   rcases hx with rfl | hx
   ·exact hd
   ·exact aS.1 e1 x hx
  cases d with
  | slice t z n g =>
   cases t with
   | own j =>
    refine ⟨aS.2 fun x hx=>?_,fun x hx=>?_⟩
    ·simp only [bW,List.mem_cons] at hx
     rcases hx with rfl | hx
     ·exact a6 (by omega)
     ·exact aS.1 e1 x hx
    ·simp only [aR,List.mem_cons] at hx
     rcases hx with rfl | hx
     ·simp only; omega
     ·exact e2 x hx
   | ro=>exact ⟨other rfl,e2⟩
   | full=>exact ⟨other rfl,e2⟩
  | ptr j o=>exact ⟨other (by rcases h0 with ⟨_,_,_,_,h0⟩ | h0; cases h0; exact h0),e2⟩
  | int k n=>exact ⟨other rfl,e2⟩
  | bool k=>exact ⟨other rfl,e2⟩
  | str k=>exact ⟨other rfl,e2⟩
  | agg k=>exact ⟨other rfl,e2⟩
  | tup k=>exact ⟨other rfl,e2⟩
  | eptr k=>exact ⟨other rfl,e2⟩
  | nilp=>exact ⟨other rfl,e2⟩
  | ubool=>exact ⟨other rfl,e2⟩
  | fn k n=>exact ⟨other rfl,e2⟩
  | dead=>exact ⟨other rfl,e2⟩
  | mp va n ks vs=>exact ⟨other rfl,e2⟩
  | newp l=>exact ⟨other rfl,e2⟩
  | arr w z n g=>exact ⟨other rfl,e2⟩
  | mref j=>exact ⟨other (by rcases h0 with ⟨_,_,_,_,h0⟩ | h0; cases h0; exact h0),e2⟩
  | msl j z n=>exact ⟨other (by rcases h0 with ⟨_,_,_,_,h0⟩ | h0; cases h0; exact h0),e2⟩
  | rptr j z n i o=>exact ⟨other (by rcases h0 with ⟨_,_,_,_,h0⟩ | h0; cases h0; exact h0),e2⟩

theorem kN {d:D} (h:rL d=true):d.names1 lo hi=false:=by
 cases d with
 | slice t z n g=>cases t <;> first | rfl | cases h
 | _=>first | rfl | cases h

theorem jD:∀ (l:List D) (ds:List D) (u:List (Nat×Bool×List D)),freeze np hp l=some (ds,u)→(∀ i f cs,hp i=some (f,cs)→¬(lo≤i∧i < hi))→∀ x∈u,¬(lo≤x.1∧x.1 < hi)∧names lo hi x.2.2=false
 | [],ds,u,h,_,x,hx=>by simp only [freeze,Option.some.injEq,Prod.mk.injEq] at h; rw [← h.2] at hx; simp at hx
 | d::l,ds,u,h,hh,x,hx=>by
  have other:(match freeze np hp l with | some (ds,u)=>bif aG [d] then some (d.pure::ds,u) else none | none=>none)=some (ds,u)→¬(lo≤x.1∧x.1 < hi)∧names lo hi x.2.2=false:=by
   intro h
   cases hf:freeze np hp l with
   | none=>simp [hf] at h
   | some p =>
    obtain ⟨ds',u'⟩:=p
    simp only [hf] at h
    cases hs:aG [d] with
    | false=>rw [hs] at h; cases h
    | true =>
     rw [hs] at h
     cases h
     exact jD l _ _ hf hh x hx
  cases d with
  | ptr i off =>
   simp only [freeze] at h
   cases hi':hp i with
   | none=>simp [hi'] at h
   | some e =>
    obtain ⟨f,cs⟩:=e
    cases hf:freeze np hp l with
    | none=>simp [hi',hf] at h
    | some p =>
     obtain ⟨ds',u'⟩:=p
     simp only [hi',hf] at h
     cases hb:((f || aG cs)&&Nat.ble np i) with
     | false=>rw [hb] at h; cases h
     | true =>
      rw [hb] at h
      cases h
      simp only [List.mem_cons] at hx
      rcases hx with rfl | hx
      ·exact ⟨hh i _ _ hi',cX _⟩
      ·exact jD l _ _ hf hh x hx
  | fn f c=>simp [freeze] at h
  | _=>exact other h

theorem nV {sz bytes:Nat} {t:Tag} {z n:Nat} {g:Nat→List D} {m:Nat} {k:Nat→List D} {v:D} {u:Upd} (h:(cU id sz bytes tk t z n g m k).holds v u) (hid:¬(lo≤id∧id < hi)) (ht:∀ i e,tk i=some e→¬(lo≤i∧i < hi)) :
  v.names lo hi=false∧(∀ x∈u.h,¬(lo≤x.1∧x.1 < hi)∧names lo hi x.2.2=false)∧∀ x∈u.t,¬(lo≤x.1∧x.1 < hi):=by
 unfold cU at h
 cases hb:Nat.beq z sz with
 | false=>rw [hb] at h; exact (aB h).elim
 | true =>
  rw [hb] at h
  simp only [Bool.not_true,cond_false] at h
  split at h
  ·rename_i i
   split at h
   ·rename_i z' n' hi'
    have h1:=ht i _ hi'
    cases hb2:Nat.beq z' sz with
    | false=>rw [hb2] at h; exact (aB h).elim
    | true =>
     rw [hb2] at h
     obtain ⟨_,rfl,rfl⟩:=a8 h
     refine ⟨a6 h1,fun y hy=>by simp at hy,fun y hy=>?_⟩
     simp only [List.mem_singleton] at hy
     subst hy
     exact h1
   ·exact (aB h).elim
  ·obtain ⟨_,rfl,rfl⟩:=a8 h
   refine ⟨a6 (by omega),fun y hy=>by simp at hy,fun y hy=>?_⟩
   simp only [List.mem_singleton] at hy
   subst hy
   simp only
   omega
  ·exact (aB h).elim

theorem pB {op:BinOp} {x y v:D} {u:Upd} (h:(bin op x y).holds v u):v.names lo hi=false∧u=Upd.none:=by
 unfold bin at h
 split at h
 ·rename_i k a k' b
  cases hs:lW op with
  | true =>
   rw [hs] at h
   simp only [cond_true] at h
   unfold qW at h
   split at h
   ·obtain ⟨_,rfl,rfl⟩:=aM h; exact ⟨rfl,rfl⟩
   ·obtain ⟨_,rfl,rfl⟩:=aM h; exact ⟨rfl,rfl⟩
   ·exact (aB h).elim
  | false =>
   rw [hs] at h
   simp only [cond_false] at h
   cases hk:iJ k k' with
   | false=>rw [hk] at h; exact (aB h).elim
   | true =>
    rw [hk] at h
    simp only [cond_true] at h
    unfold wC at h
    split at h
    all_goals first
     | exact (aB h).elim
     | (obtain ⟨rfl,rfl⟩:=aD h; exact ⟨rfl,rfl⟩)
     | (obtain ⟨_,rfl,rfl⟩:=aM h; exact ⟨rfl,rfl⟩)
 ·unfold wM at h
  split at h
  all_goals first
   | exact (aB h).elim
   | (obtain ⟨rfl,rfl⟩:=aD h; exact ⟨rfl,rfl⟩)
   | (obtain ⟨_,rfl,rfl⟩:=aM h; exact ⟨rfl,rfl⟩)
 ·exact (aB h).elim

theorem bS {c:Bool} {o:Out} {v:D} {u:Upd} (h:(bif c then o else Out.bad).holds v u):c=true∧o.holds v u:=by
 cases c with
 | true=>exact ⟨rfl,h⟩
 | false=>exact (aB h).elim

theorem cQ {c:Bool} {o:Out} {v:D} {u:Upd} (h:(bif !c then Out.bad else o).holds v u):c=true∧o.holds v u:=by
 cases c with
 | true=>exact ⟨rfl,h⟩
 | false=>exact (aB h).elim

theorem uB {o:AOp} {args:List D} {v:D} {u:Upd} (h:(aQ o id hp tk args).holds v u) (ho:i9 o=true) (ha:∀ d∈args,d.names lo hi=false∧wY lo hi d)
  (hh:∀ i f cs,hp i=some (f,cs)→¬(lo≤i∧i < hi)∧names lo hi cs=false∧∀ e∈cs,Cell e) (ht:∀ i e,tk i=some e→¬(lo≤i∧i < hi)) (hid:id+bE o≤lo∨hi≤id) :
  v.names lo hi=false∧(∀ x∈u.h,¬(lo≤x.1∧x.1 < hi)∧names lo hi x.2.2=false)∧∀ x∈u.t,¬(lo≤x.1∧x.1 < hi):=by
 have none':(∀ x∈Upd.none.h,¬(lo≤x.1∧x.1 < hi)∧names lo hi x.2.2=false)∧∀ x∈Upd.none.t,¬(lo≤x.1∧x.1 < hi):=⟨fun x hx=>by simp [Upd.none] at hx,fun x hx=>by simp [Upd.none] at hx⟩
 have hidlt:¬(lo≤id∧id < hi):=by
  have:0 < bE o:=by cases o <;> simp [bE]; omega
  omega
 unfold aQ at h
 split at h
 ·obtain ⟨rfl,rfl⟩:=aD h; exact ⟨(ha _ (by simp)).1,none'⟩
 ·rename_i c x y
  obtain ⟨rfl,rfl⟩:=aD h
  refine ⟨?_,none'⟩
  cases c
  ·exact (ha y (by simp)).1
  ·exact (ha x (by simp)).1
 ·rename_i cells
  cases hs:aG cells with
  | false=>rw [hs] at h; exact (aB h).elim
  | true =>
   rw [hs] at h
   obtain ⟨rfl,rfl⟩:=aT h
   simp only [i9,List.all_eq_true] at ho
   have hr:=qA (lo:=lo) (hi:=hi) cells (id+1) (fun d hd=>by
    have:=ho d hd
    cases d with
    | slice t z n g=>exact .inl ⟨t,z,n,g,rfl⟩
    | _=>exact .inr (kN this)) (fun _ _ _ _ _ _ _=>trivial) (by simp only [bE] at hid; omega)
   refine ⟨a6 (by omega),fun x hx=>?_,hr.2⟩
   simp only [List.mem_singleton] at hx
   subst hx
   exact ⟨by simp only; omega,hr.1⟩
 ·rename_i x
  cases hs:aG x.cells with
  | false=>rw [hs] at h; exact (aB h).elim
  | true =>
   rw [hs] at h
   obtain ⟨rfl,rfl⟩:=aT h
   refine ⟨a6 (by omega),fun y hy=>?_,fun y hy=>by simp at hy⟩
   simp only [List.mem_singleton] at hy
   subst hy
   exact ⟨by simp only; omega,lG (ha x (by simp)).1 hs⟩
 ·rename_i g n i off
  split at h
  ·rename_i f cs hi'
   obtain ⟨_,h2,h3⟩:=hh i _ _ hi'
   obtain ⟨h4,rfl⟩:=bT (bS h).2 (jR h2 off) (fun e he=>h3 e (List.mem_of_mem_drop he))
   exact ⟨h4,none'⟩
  ·exact (aB h).elim
 ·rename_i g n l
  obtain ⟨h4,rfl⟩:=bT (lo:=lo) (hi:=hi) h (cX l) (fun e he=>by
   obtain ⟨x,_,rfl⟩:=fJ he
   exact d5 x)
  exact ⟨h4,none'⟩
 ·rename_i n i off x
  split at h
  ·rename_i cs hi'
   obtain ⟨h1,h2,h3⟩:=hh i _ _ hi'
   replace h:=(cQ h).2
   cases hb:(aG x.cells&&Nat.beq x.cells.length n&&Nat.ble (off+n) cs.length) with
   | false=>rw [hb] at h; exact (aB h).elim
   | true =>
    rw [hb] at h
    obtain ⟨rfl,rfl⟩:=aT h
    simp only [Bool.and_eq_true] at hb
    refine ⟨rfl,fun y hy=>?_,fun y hy=>by simp at hy⟩
    simp only [List.mem_singleton] at hy
    subst hy
    refine ⟨h1,aS.2 fun d hd=>?_⟩
    rcases jU hd with hd | hd
    ·exact aS.1 h2 d hd
    ·exact aS.1 (lG (ha x (by simp)).1 hb.1.1) d hd
  ·exact (aB h).elim
 ·rename_i off i o
  obtain ⟨rfl,rfl⟩:=aD h
  exact ⟨(ha (.ptr i o) (by simp)).1,none'⟩
 ·obtain ⟨rfl,rfl⟩:=aD h
  exact ⟨rfl,none'⟩
 ·rename_i g off n l
  have h1:=ha (.agg l) (by simp)
  obtain ⟨h4,rfl⟩:=bT h (jR h1.1 off) (fun e he=>h1.2 e (List.mem_of_mem_drop he))
  exact ⟨h4,none'⟩
 ·rename_i sz t z n g k i
  cases hb:Nat.beq z sz with
  | false=>rw [hb] at h; exact (aB h).elim
  | true =>
   rw [hb] at h
   obtain ⟨_,rfl,rfl⟩:=aM h
   exact ⟨rfl,none'⟩
 ·rename_i sz len j off k i
  obtain ⟨_,rfl,rfl⟩:=aM h
  exact ⟨(ha (.ptr j off) (by simp)).1,none'⟩
 ·obtain ⟨_,rfl,rfl⟩:=aM h
  exact ⟨rfl,none'⟩
 ·obtain ⟨_,rfl,rfl⟩:=aM h
  exact ⟨rfl,none'⟩
 ·rename_i g sz len l k i
  have h1:=ha (.agg l) (by simp)
  cases hl:bP g sz (l.drop (i.toNat * sz)) with
  | ok v' u' =>
   rw [hl] at h
   obtain ⟨_,rfl,rfl⟩:=aM h
   have hl':(bP g sz (l.drop (i.toNat * sz))).holds v u:=.inl hl
   obtain ⟨h4,rfl⟩:=bT hl' (jR h1.1 _) (fun e he=>h1.2 e (List.mem_of_mem_drop he))
   exact ⟨h4,none'⟩
  | bad=>rw [hl] at h; exact (aB h).elim
  | ask p v' u'=>rw [hl] at h; exact (aB h).elim
  | chk p v' u'=>rw [hl] at h; exact (aB h).elim
  | alt p v' u' v2 u2=>rw [hl] at h; exact (aB h).elim
 ·rename_i zero parts
  cases hf:fill zero parts args with
  | none=>rw [hf] at h; exact (aB h).elim
  | some l =>
   rw [hf] at h
   obtain ⟨rfl,rfl⟩:=aD h
   simp only [i9,List.all_eq_true] at ho
   refine ⟨aCH (aS.2 fun d hd=>?_),none'⟩
   rcases zG hf d hd with h1 | ⟨x,h1,h2⟩
   ·exact kN (ho d h1)
   ·cases x with
    | agg l'=>exact aS.1 (ha _ h1).1 d h2
    | _ =>
     simp only [D.cells,List.mem_singleton] at h2
     subst h2
     exact aCX (ha _ h1).1
 ·rename_i sz len zero parts
  cases hf:fill (rep len zero) parts args with
  | none=>rw [hf] at h; exact (aB h).elim
  | some l =>
   rw [hf] at h
   simp only at h
   cases hb:(Nat.beq zero.length sz&&aG l) with
   | false=>rw [hb] at h; exact (aB h).elim
   | true =>
    rw [hb] at h
    obtain ⟨rfl,rfl⟩:=aD h
    exact ⟨rfl,none'⟩
 ·rename_i sz lo' hi' mx t z n g r
  cases hb:Nat.beq z sz with
  | false=>rw [hb] at h; exact (aB h).elim
  | true =>
   rw [hb] at h
   simp only [Bool.not_true,cond_false] at h
   split at h
   ·split at h
    ·split at h
     ·obtain ⟨_,rfl,rfl⟩:=aM h
      refine ⟨?_,none'⟩
      cases mx <;> rfl
     ·exact (aB h).elim
    ·exact (aB h).elim
   ·exact (aB h).elim
 ·split at h
  ·split at h
   ·obtain ⟨_,rfl,rfl⟩:=aM h
    exact ⟨rfl,none'⟩
   ·exact (aB h).elim
  ·exact (aB h).elim
 ·rename_i sz len np' i off
  split at h
  ·rename_i f cs hi'
   obtain ⟨h1,h2,h3⟩:=hh i _ _ hi'
   replace h:=(cQ h).2
   cases hb:(Nat.ble (off+len * sz) cs.length&&Nat.ble np' i) with
   | false=>rw [hb] at h; exact (aB h).elim
   | true =>
    rw [hb] at h
    obtain ⟨rfl,rfl⟩:=aT h
    refine ⟨rfl,fun y hy=>?_,fun y hy=>by simp at hy⟩
    simp only [List.mem_singleton] at hy
    subst hy
    exact ⟨h1,cX _⟩
  ·exact (aB h).elim
 ·rename_i sz len np' l
  cases hb:Nat.ble (len * sz) l.length with
  | false=>rw [hb] at h; exact (aB h).elim
  | true =>
   rw [hb] at h
   obtain ⟨rfl,rfl⟩:=aD h
   exact ⟨rfl,none'⟩
 ·obtain ⟨rfl,rfl⟩:=aD h
  exact ⟨rfl,none'⟩
 ·obtain ⟨rfl,rfl⟩:=aD h
  exact ⟨rfl,none'⟩
 ·rename_i sz bytes t z n g t' z' m g'
  cases hb:Nat.beq z' sz with
  | false=>rw [hb] at h; exact (aB h).elim
  | true =>
   rw [hb] at h
   exact nV h hidlt ht
 ·rename_i sz bytes t z n g b
  cases hb:Nat.beq sz 1 with
  | false=>rw [hb] at h; exact (aB h).elim
  | true =>
   rw [hb] at h
   exact nV h hidlt ht
 ·obtain ⟨h1,rfl⟩:=pB (lo:=lo) (hi:=hi) h
  exact ⟨h1,none'⟩
 ·obtain ⟨rfl,rfl⟩:=aD h
  exact ⟨rfl,none'⟩
 ·split at h
  ·obtain ⟨rfl,rfl⟩:=aD h
   exact ⟨rfl,none'⟩
  ·exact (aB h).elim
 ·unfold un at h
  split at h
  ·obtain ⟨rfl,rfl⟩:=aD h
   exact ⟨rfl,none'⟩
  ·obtain ⟨rfl,rfl⟩:=aD h
   exact ⟨rfl,none'⟩
  ·exact (aB h).elim
 ·obtain ⟨rfl,rfl⟩:=aD h
  exact ⟨rfl,none'⟩
 ·obtain ⟨rfl,rfl⟩:=aD h
  exact ⟨rfl,none'⟩
 ·obtain ⟨_,rfl,rfl⟩:=a8 h
  exact ⟨rfl,none'⟩
 ·obtain ⟨rfl,rfl⟩:=aD h
  exact ⟨rfl,none'⟩
 ·obtain ⟨rfl,rfl⟩:=aD h
  exact ⟨rfl,none'⟩
 ·rename_i f np'
  cases hf:freeze np' hp args with
  | none=>rw [hf] at h; exact (aB h).elim
  | some p =>
   obtain ⟨ds,us⟩:=p
   rw [hf] at h
   obtain ⟨rfl,rfl⟩:=aT h
   exact ⟨rfl,jD args ds us hf (fun i f cs h=>(hh i f cs h).1),fun y hy=>by simp at hy⟩
 ·rename_i i l
  have h1:=ha (.tup l) (by simp)
  cases hb:Nat.blt i l.length with
  | false=>rw [hb] at h; exact (aB h).elim
  | true =>
   rw [hb] at h
   obtain ⟨rfl,rfl⟩:=aD h
   refine ⟨?_,none'⟩
   rcases oW (l:=l) (j:=i) with h2 | h2
   ·have h3:=aS.1 h1.1 _ h2
    have h4:=h1.2 _ h2
    generalize nth l i .dead=e at h3 h4
    cases e with
    | agg c=>exact h4
    | tup c=>exact h4.elim
    | _=>exact h3
   ·rw [h2]; rfl
 ·rename_i zero bytes k l k' c
  cases hs:aG zero with
  | false=>rw [hs] at h; exact (aB h).elim
  | true =>
   rw [hs] at h
   obtain ⟨_,rfl,rfl⟩:=a8 h
   refine ⟨a6 (by omega),fun y hy=>by simp at hy,fun y hy=>?_⟩
   simp only [List.mem_singleton] at hy
   subst hy
   simp only
   omega
 ·obtain ⟨rfl,rfl⟩:=aD h
  exact ⟨(ha _ (by simp)).1,none'⟩
 ·obtain ⟨rfl,rfl⟩:=aD h
  exact ⟨rfl,none'⟩
 ·obtain ⟨rfl,rfl⟩:=aD h
  exact ⟨rfl,none'⟩
 ·obtain ⟨rfl,rfl⟩:=aT h
  refine ⟨a6 (by omega),fun y hy=>by simp at hy,fun y hy=>?_⟩
  simp only [List.mem_singleton] at hy
  subst hy
  simp only
  omega
 ·obtain ⟨rfl,rfl⟩:=aT h
  refine ⟨a6 (by omega),fun y hy=>?_,fun y hy=>by simp at hy⟩
  simp only [List.mem_singleton] at hy
  subst hy
  exact ⟨by simp only; omega,rfl⟩
 ·rename_i i
  unfold oH at h
  split at h
  ·rename_i s p hi'
   obtain ⟨h1,_,_⟩:=hh i _ _ hi'
   rcases cP h with ⟨_,rfl,rfl⟩ | ⟨_,rfl,rfl⟩
   ·refine ⟨rfl,fun y hy=>?_,fun y hy=>by simp at hy⟩
    simp only [List.mem_singleton] at hy
    subst hy
    exact ⟨h1,rfl⟩
   ·exact ⟨rfl,none'⟩
  ·exact (aB h).elim
 ·rename_i va
  obtain ⟨rfl,rfl⟩:=aT h
  refine ⟨a6 (by omega),fun y hy=>?_,fun y hy=>by simp at hy⟩
  simp only [List.mem_singleton] at hy
  subst hy
  exact ⟨by simp only; omega,rfl⟩
 ·unfold qT at h
  split at h
  ·obtain ⟨rfl,rfl⟩:=aD h
   exact ⟨rfl,none'⟩
  ·exact (aB h).elim
 ·rename_i i k x
  unfold sN at h
  split at h
  ·rename_i va n ks vs hi'
   obtain ⟨h1,_,_⟩:=hh i _ _ hi'
   obtain ⟨_,h⟩:=bS h
   obtain ⟨rfl,rfl⟩:=aT h
   refine ⟨rfl,fun y hy=>?_,fun y hy=>by simp at hy⟩
   simp only [List.mem_singleton] at hy
   subst hy
   exact ⟨h1,rfl⟩
  ·exact (aB h).elim
 ·rename_i comma va zero i k
  unfold sC at h
  split at h
  ·rename_i va' n ks vs hi'
   obtain ⟨hva,h⟩:=bS h
   have hva:va'=va:=by cases va' <;> cases va <;> first | rfl | cases hva
   subst hva
   have hz:∀ ok l,(kE comma va' ok l).names lo hi=false:=fun ok l=>by
    have e:(mkv va' (aI l)).names lo hi=false∧(mkv va' (aI l)).names1 lo hi=false:=by
     cases va' with
     | true=>exact ⟨cX l,rfl⟩
     | false =>
      simp only [mkv,cond_false]
      rw [aV]
      exact ⟨(d5 _).names (d7 _),d7 _⟩
    cases comma with
    | false=>exact e.1
    | true =>
     simp only [kE,cond_true,D.names]
     refine aS.2 fun d hd=>?_
     simp only [List.mem_cons,List.not_mem_nil,or_false] at hd
     rcases hd with rfl | rfl
     ·exact e.2
     ·rfl
   rcases cP h with ⟨_,rfl,rfl⟩ | ⟨_,rfl,rfl⟩
   ·exact ⟨hz _ _,none'⟩
   ·exact ⟨hz _ _,none'⟩
  ·exact (aB h).elim
 ·obtain ⟨rfl,rfl⟩:=aD h
  exact ⟨rfl,none'⟩
 ·obtain ⟨rfl,rfl⟩:=aD h
  exact ⟨rfl,none'⟩
 ·obtain ⟨rfl,rfl⟩:=aD h
  exact ⟨rfl,none'⟩
 ·rcases cP h with ⟨_,rfl,rfl⟩ | ⟨_,rfl,rfl⟩
  ·exact ⟨rfl,none'⟩
  ·exact ⟨rfl,none'⟩
 ·obtain ⟨rfl,rfl⟩:=aD h
  exact ⟨rfl,none'⟩
 ·rename_i sz j z n kd i
  obtain ⟨_,h⟩:=cQ h
  obtain ⟨_,rfl,rfl⟩:=aM h
  exact ⟨(ha (.msl j z n) (by simp)).1,none'⟩
 ·rename_i off j z n i o
  obtain ⟨rfl,rfl⟩:=aD h
  exact ⟨(ha (.rptr j z n i o) (by simp)).1,none'⟩
 ·rename_i j z n i o
  obtain ⟨rfl,rfl⟩:=aD h
  exact ⟨(ha (.rptr j z n i o) (by simp)).1,none'⟩
 ·unfold oD at h
  split at h
  ·obtain ⟨_,h⟩:=bS h
   obtain ⟨_,h⟩:=jM h
   obtain ⟨e1,rfl⟩:=bT (lo:=lo) (hi:=hi) h (jR (cX _) _) (fun e he=>by
    obtain ⟨x,_,rfl⟩:=fJ (List.mem_of_mem_drop he)
    exact d5 x)
   exact ⟨e1,none'⟩
  ·exact (aB h).elim
 ·rename_i m j z n i o x
  unfold k7 at h
  split at h
  ·rename_i w z' n' g hi'
   obtain ⟨_,h⟩:=bS h
   obtain ⟨_,rfl,rfl⟩:=a8 h
   refine ⟨rfl,fun y hy=>?_,fun y hy=>by simp at hy⟩
   simp only [List.mem_singleton] at hy
   subst hy
   exact ⟨(hh j _ _ hi').1,rfl⟩
  ·exact (aB h).elim
 ·rename_i sz bytes j z n t z' m k
  obtain ⟨_,h⟩:=cQ h
  unfold pK at h
  split at h
  ·rename_i z1 n1 g hi'
   obtain ⟨_,h⟩:=bS h
   obtain ⟨_,rfl,rfl⟩:=a8 h
   refine ⟨(ha (.msl j z n) (by simp)).1,fun y hy=>?_,fun y hy=>by simp at hy⟩
   simp only [List.mem_singleton] at hy
   subst hy
   exact ⟨(hh j _ _ hi').1,rfl⟩
  ·exact (aB h).elim
 ·exact (aB h).elim

end
end Go.Abs

/- One operation that is no call,as a step from state to state. -/
namespace Go.Abs
open Go

section
variable {P:Program} {F:Nat→FuncId} {B np:Nat} {w0 w w':World} {ext:List Nat} {σ0:Og} {G G':Gh} {s:St} {a:Act} {ft:FT} {hp:Nat→Option (Bool×List D)} {tk:Nat→Option (Nat×Nat)} {lo hi:Nat}

theorem k4:∀ {l:List (Nat×Bool×List D)} {hp:Nat→Option (Bool×List D)} {j:Nat} {x:Bool×List D},dT hp l j=some x→hp j=some x∨(j,x)∈l
 | [],_,_,_,h=>.inl h
 | (i,e)::l,hp,j,x,h=>by
  simp only [dT] at h
  rcases k4 h with h1 | h1
  ·rcases aX h1 with ⟨rfl,rfl⟩ | ⟨_,h2⟩
   ·exact .inr (by simp)
   ·exact .inl h2
  ·exact .inr (List.mem_cons_of_mem _ h1)

theorem rX:∀ {l:List (Nat×Nat×Nat)} {tk:Nat→Option (Nat×Nat)} {j:Nat} {x:Nat×Nat},cG tk l j=some x→tk j=some x∨(j,x)∈l
 | [],_,_,_,h=>.inl h
 | (i,e)::l,tk,j,x,h=>by
  simp only [cG] at h
  rcases rX h with h1 | h1
  ·rcases aX h1 with ⟨rfl,rfl⟩ | ⟨_,h2⟩
   ·exact .inr (by simp)
   ·exact .inl h2
  ·exact .inr (List.mem_cons_of_mem _ h1)

theorem aBB (dst:Option Nat) (v:D) (fr:List D):(eG dst v fr).length=fr.length:=by
 cases dst <;> simp [eG,bQ]

theorem aA7 (dst:Option Nat) (v:D) (fr:List D) (j:Nat):nth (eG dst v fr) j .dead=v∨nth (eG dst v fr) j .dead=nth fr j .dead:=by
 cases dst with
 | none=>exact .inr rfl
 | some d =>
  simp only [eG,eM]
  split
  ·exact .inl rfl
  ·exact .inr rfl

theorem Clean.after (h:Clean lo hi s) {v:D} {u:Upd} (hv:v.names lo hi=false) (hh:∀ x∈u.h,¬(lo≤x.1∧x.1 < hi)∧names lo hi x.2.2=false) (ht:∀ x∈u.t,¬(lo≤x.1∧x.1 < hi)) (dst:Option Nat) :
  Clean lo hi ⟨eG dst v s.fr,dT s.hp u.h,cG s.tk u.t⟩:=by
 refine ⟨fun i hi'=>?_,fun i f cs hx=>?_,fun i e hx=>?_⟩
 ·simp only [aBB] at hi'
  simp only
  rcases aA7 dst v s.fr i with e | e
  ·rw [e]; exact hv
  ·rw [e]; exact h.fr i hi'
 ·rcases k4 hx with h1 | h1
  ·exact h.hp i f cs h1
  ·exact hh _ h1
 ·rcases rX hx with h1 | h1
  ·exact h.tk i e h1
  ·exact ht _ h1

theorem Rp.cell {σ:Sg} {v:Value} {d:D} (h:Rp σ v d):Cell d:=by cases h <;> trivial

theorem Rc.cell {v:Value} {d:D} (h:Rc F G tk v d):Cell d:=by
 cases h with
 | pure h _=>exact h.cell
 | _=>trivial

theorem Rd.flat {v:Value} {d:D} (h:Rd F G tk v d):wY lo hi d:=by
 cases h with
 | any h =>
  cases h with
  | cell h =>
   have:=h.cell
   cases d <;> first | trivial | exact this.elim
  | agg cs l h1 h2 =>
   intro e he
   obtain ⟨j,hj,rfl⟩:=List.mem_iff_getElem.1 he
   have:=(h2 j hj).cell
   rw [cR l _ hj] at this
   exact this
 | tup vs l h1 h2 =>
  intro e he
  obtain ⟨j,hj,rfl⟩:=List.mem_iff_getElem.1 he
  have:=h2 j hj
  rw [cR l _ hj] at this
  generalize l[j]=e at this
  generalize vs.getD j undef=v at this
  cases this with
  | cell h =>
   have:=h.cell
   cases e <;> first | trivial | exact this.elim
  | agg cs c h3 h4 =>
   refine aS.2 fun x hx=>?_
   obtain ⟨q,hq,rfl⟩:=List.mem_iff_getElem.1 hx
   have:=(h4 q hq).2
   rw [cR c _ hq] at this
   rw [this]
   exact d7 _
 | mref id=>trivial
 | msl=>trivial
 | rptr=>trivial

theorem mQ {d:D} (h:wL d=true):d.names lo hi=false∧wY lo hi d:=by
 cases d with
 | agg l =>
  simp only [wL,List.all_eq_true] at h
  refine ⟨aS.2 fun e he=>kN (h e he),fun e he=>?_⟩
  have:=h e he
  cases e <;> first | trivial | cases this
 | tup l=>cases h
 | slice t z n g=>cases t <;> first | exact ⟨rfl,trivial⟩ | cases h
 | ptr j o=>cases h
 | mref j=>cases h
 | msl j z n=>cases h
 | rptr j z n i o=>cases h
 | _=>exact ⟨rfl,trivial⟩

theorem wS {fr:List D}:∀ {xs:List AX} {d:D},d∈evs fr xs→∃ x∈xs,d=x.ev fr
 | [],_,h=>by simp [evs] at h
 | x::xs,d,h=>by
  simp only [evs,List.mem_cons] at h
  rcases h with h | h
  ·exact ⟨x,by simp,h⟩
  ·obtain ⟨y,h1,h2⟩:=wS h
   exact ⟨y,List.mem_cons_of_mem _ h1,h2⟩

theorem aGK (r:Rel F B np w0 ext σ0 G s a w) (hcl:Clean lo hi s) {xs:List AX} (h:xs.all lC=true):∀ d∈evs s.fr xs,d.names lo hi=false∧wY lo hi d:=by
 intro d hd
 obtain ⟨x,hx,rfl⟩:=wS hd
 have hx:=List.all_eq_true.1 h x hx
 cases x with
 | t i =>
  simp only [AX.ev]
  by_cases hi':i < s.fr.length
  ·exact ⟨hcl.fr i hi',(r.slots i hi').flat⟩
  ·rw [gS s.fr D.dead (Nat.le_of_not_lt hi')]
   exact ⟨rfl,trivial⟩
 | c d=>exact mQ hx

theorem aGD (r:Rel F B np w0 ext σ0 G s a w) (hcl:Clean lo hi s):∀ i f cs,s.hp i=some (f,cs)→¬(lo≤i∧i < hi)∧names lo hi cs=false∧∀ e∈cs,Cell e:=by
 intro i f cs h
 refine ⟨(hcl.hp i f cs h).1,(hcl.hp i f cs h).2,fun e he=>?_⟩
 cases f with
 | false =>
  by_cases hna:bN cs=false
  rotate_left
  ·obtain ⟨w,z,n,g,rfl⟩:=cK (by simpa using hna)
   simp only [List.mem_cons,List.not_mem_nil,or_false] at he
   rcases he with rfl | rfl <;> trivial
  obtain ⟨_,_,hh,_⟩:=r.mem.vars i cs h hna
  rcases hh.cell with hs | ⟨t,p,rfl⟩ | ⟨va,n,ks,vs,rfl⟩
  ·exact hQ hs e he
  rotate_left
  ·simp only [List.mem_cons,List.not_mem_nil,or_false] at he
   rcases he with rfl | rfl <;> trivial
  ·simp only [List.mem_cons,List.not_mem_nil,or_false] at he
   rcases he with rfl | rfl | rfl <;> trivial
 | true =>
  obtain ⟨j,hj,rfl⟩:=List.mem_iff_getElem.1 he
  obtain ⟨v,_,_,h3⟩:=r.mem.froz i cs h j hj
  rw [cR cs _ hj] at h3
  rw [h3]
  exact d5 _

theorem cJ {o:Out} {k:D→Upd→Prop} (h:o.then k):∃ v u,o.holds v u∧k v u:=by
 cases o with
 | bad=>exact h.elim
 | ok v u=>exact ⟨v,u,.inl rfl,h⟩
 | ask p v u=>exact ⟨v,u,.inr (.inl ⟨p,h.1,rfl⟩),h.2⟩
 | chk b v u =>
  cases b with
  | true=>exact ⟨v,u,.inr (.inr (.inl rfl)),h⟩
  | false=>exact h.elim
 | alt b v u v' u' =>
  cases b with
  | true=>exact ⟨v,u,.inr (.inr (.inr (.inl ⟨v',u',rfl⟩))),h⟩
  | false=>exact ⟨v',u',.inr (.inr (.inr (.inr ⟨v,u,rfl⟩))),h⟩

theorem fO {o:Out} {k:D→Upd→Prop} {v:D} {u:Upd} (h:o.holds v u) (hk:k v u):o.then k:=by
 rcases h with rfl | ⟨p,hp,rfl⟩ | rfl | ⟨_,_,rfl⟩ | ⟨_,_,rfl⟩
 ·exact hk
 ·exact ⟨hp,hk⟩
 ·exact hk
 ·exact hk
 ·exact hk

def St.next (s:St) (dst:Option Nat) (v:D) (u:Upd):St:=⟨eG dst v s.fr,dT s.hp u.h,cG s.tk u.t⟩

theorem aD4 (r:Rel F B np w0 ext σ0 G s a w) (hcl:Clean lo hi s) {ao:AOp} {xs:List AX} (hok:i9 ao=true) (hax:xs.all lC=true) {id:Nat} (hid:id+bE ao≤lo∨hi≤id) {v:D} {u:Upd}
  (hh:(aQ ao id s.hp s.tk (evs s.fr xs)).holds v u) (dst:Option Nat):Clean lo hi (s.next dst v u):=by
 obtain ⟨h1,h2,h3⟩:=uB hh hok (aGK r hcl hax) (aGD r hcl) hcl.tk hid
 exact hcl.after h1 h2 h3 dst

theorem aGS (hft:∀ f j,ag ft f=some j→F j=f) (r:Rel F B np w0 ext σ0 G s a w) {o:Oper} {ao:AOp} {xs:List AX} (ht:aA0 P ft np o=some (ao,xs)) (hnc:c6 ao=false) {id:Nat} (hnp:np≤id) (hcl:Clean id (id+bE ao) s) {v:D} {u:Upd}
  (hh:(aQ ao id s.hp s.tk (evs s.fr xs)).holds v u) (dst:Option Nat) :
  ∃ w' r' v' G',(execOp a.eval o).run P w=.ok r' w'∧(r'=.value v'∨r'=.skip∧v'=undef)∧Rel F B np w0 ext σ0 G' (s.next dst v u) (a.put dst v') w':=by
 obtain ⟨w',r',v',G',h1,h2,h3,h4,h5⟩:=aFS hft r o ao xs ht hnc id hcl v u hh
 exact ⟨w',r',v',G',h1,h2,r.put hnp hcl h5 h3 h4 dst⟩

end
end Go.Abs

/- What a call is given and leaves; the caller's memory behind a call. -/
namespace Go.Abs
open Go

def G0 (σ:Og) (ext:List Nat):Gh:=⟨σ.σ,fun k=>ext.getD k 0,fun _=>undef,σ.η⟩

def aG6 (σ:Og) (w:World) (ext:List Nat) (k z n:Nat) (g:Nat→List D):Prop :=
 ∃ a c,σ.η k n=some (.slice a n c)∧n≤c∧(∀ m,m≠n→σ.η k m=none)∧(0 < c→a=some ⟨ext.getD k 0,0,none⟩∧(∀ q,σ (ext.getD k 0) q=none)∧∃ o,w.heap[ext.getD k 0]? = some o∧RowO σ.σ o z n c g)

structure CPre (F:Nat→FuncId) (σ:Og) (w:World) (ext:List Nat) (vals:Array Value) (ds:List D) (bs:List (List D)):Prop where
 stab:∀ b o v,σ b o=some v→v.oneCell'=true∧∃ c e fz,w.heap[b]? = some (.cells c e fz)∧c[o]? = some v
 size:vals.size=ds.length
 args:∀ j,j < ds.length→Rd F (G0 σ ext) (fun _=>none) (vals.getD j undef) (nth ds j .dead)
 clean:∀ j,j < ds.length→∀ h,(nth ds j .dead).names bs.length h=false
 len:ext.length=bs.length
 nodup:ext.Nodup
 blocks:∀ k,k < bs.length→(∃ z n g,bs.getD k []=[.dead,.arr false z n g]∧aG6 σ w ext k z n g)∨aG (bs.getD k [])=true∧(∃ c e,w.heap[ext.getD k 0]? = some (.cells c e (0,0))∧c.size=(bs.getD k []).length ∧
  (∀ j,j < (bs.getD k []).length→Rp σ (c.getD j undef) (nth (bs.getD k []) j .dead)∧nth (bs.getD k []) j .dead=(nth (bs.getD k []) j .dead).pure1)∧∀ o,σ (ext.getD k 0) o=none)

def qC (σ:Sg) (w:World) (B:Nat) (v:Value):D→Prop
 | .agg c=>∃ cs,v=.agg cs∧cs.size=c.length∧∀ j,j < c.length→Rp σ (cs.getD j undef) (nth c j .dead).pure1
 | .slice (.own _) z n g=>Rp σ v (.slice .ro z n g)∧∃ a c,v=.slice a n c∧n≤c∧(n < c→∃ b cur e,a=some ⟨b,0,none⟩∧w.heap[b]? = some (.cells cur e (0,0))∧cur.size=c * z∧(∀ o,n * z≤o→σ b o=none)∧B≤b)
 | .newp l=>∃ b c e,v=.pointer (some ⟨b,0,none⟩)∧B≤b∧w.heap[b]? = some (.cells c e (0,0))∧c.size=l.length∧(∀ j,j < l.length→Rp σ (c.getD j undef) (nth l j .dead).pure1)∧∀ o,σ b o=none
 | d=>Rp σ v d.pure1

def cV (v:Value) (d:D) (b:Nat):Prop:=∃ i z n g c,d=.slice (.own i) z n g∧v=.slice (some ⟨b,0,none⟩) n c∧n < c

def fA (vs:Array Value):Value:=if h:vs.size=1 then vs[0] else .tuple vs

structure CPost (σ:Og) (w:World) (ext:List Nat) (w':World) (σ':Sg) (rs:List D) (bs':List (List D)) (vs:Array Value):Prop where
 stab:∀ b o v,σ' b o=some v→v.oneCell'=true∧∃ c e fz,w'.heap[b]? = some (.cells c e fz)∧c[o]? = some v
 le:SgLe σ.σ σ'
 old:∀ b o,b < w.heap.size→σ' b o=σ b o
 os:w'.os=w.os
 tape:w'.tape=w.tape
 output:w'.output=w.output
 base:w.heap.size≤w'.heap.size
 keep:∀ b,b < w.heap.size→b ∉ ext→w'.heap[b]? = w.heap[b]?
 rows:∀ k f z n g,k < bs'.length→k < ext.length→bs'.getD k []=[.dead,.arr f z n g]→∃ a c,σ.η k n=some (.slice a n c)∧∀ b,a=some ⟨b,0,none⟩→0 < c→∃ o,w'.heap[b]? = some o∧RowO σ' o z n c g
 blocks:∀ k,k < bs'.length→k < ext.length→aG (aI (bs'.getD k []))=true→∃ c e,w'.heap[ext.getD k 0]? = some (.cells c e (0,0))∧c.size=(bs'.getD k []).length ∧
  ∀ j,j < (bs'.getD k []).length→Rp σ' (c.getD j undef) (nth (bs'.getD k []) j .dead).pure1
 size:vs.size=rs.length
 res:∀ j,j < rs.length→qC σ' w' w.heap.size (vs.getD j undef) (nth rs j .dead)
 own:∀ i j b,i < rs.length→j < rs.length→cV (vs.getD i undef) (nth rs i .dead) b→cV (vs.getD j undef) (nth rs j .dead) b→i=j

structure bC (P:Program) (F:Nat→FuncId) (f:FuncId) (C:aL):Prop where
 enter:∀ (args:Array Value) (w:World),(callFunc f args).run P w=.ok (.enter f args) w
 mono:∀ ds bs K K',(∀ rs bs',K rs bs'→K' rs bs')→C ds bs K→C ds bs K'
 feas:∀ ds bs K,C ds bs K→∃ rs bs',K rs bs'
 calls:∀ σ w ext vals ds bs K,CPre F σ w ext vals ds bs→C ds bs K→Calls P f vals w fun e w'=>∃ vs rs bs' σ',e=.returned (fA vs)∧K rs bs'∧CPost σ w ext w' σ' rs bs' vs

structure aFA (P:Program) (F:Nat→FuncId) (f:FuncId) (C:aL):Prop where
 mono:∀ ds bs K K',(∀ rs bs',K rs bs'→K' rs bs')→C ds bs K→C ds bs K'
 feas:∀ ds bs K,C ds bs K→∃ rs bs',K rs bs'
 calls:∀ σ w ext vals ds bs K,CPre F σ w ext vals ds bs→C ds bs K→∃ w' vs rs bs' σ',(callFunc f vals).run P w=.ok (.value (fA vs)) w'∧K rs bs'∧CPost σ w ext w' σ' rs bs' vs

def COk (P:Program) (F:Nat→FuncId) (f:FuncId) (C:aL):Prop:=bC P F f C∨aFA P F f C

theorem COk.mono {P:Program} {F:Nat→FuncId} {f:FuncId} {C:aL} (h:COk P F f C):∀ ds bs K K',(∀ rs bs',K rs bs'→K' rs bs')→C ds bs K→C ds bs K':=h.elim (·.mono) (·.mono)
theorem COk.feas {P:Program} {F:Nat→FuncId} {f:FuncId} {C:aL} (h:COk P F f C):∀ ds bs K,C ds bs K→∃ rs bs',K rs bs':=h.elim (·.feas) (·.feas)

def EnvOk (P:Program) (F:Nat→FuncId) (E:Env):Prop:=∀ j C,ag E j=some C→COk P F (F j) C

section
variable {P:Program} {F:Nat→FuncId} {B np:Nat} {w0 w w':World} {ext:List Nat} {σ0:Og} {G G':Gh} {s:St} {a:Act} {hp:Nat→Option (Bool×List D)} {tk:Nat→Option (Nat×Nat)}

theorem dZ:∀ {l:List (Nat×Nat×Nat)} {tk:Nat→Option (Nat×Nat)} {j:Nat},(∀ x∈l,x.1≠j)→cG tk l j=tk j
 | [],_,_,_=>rfl
 | (i,e)::l,tk,j,h=>by
  simp only [cG]
  rw [dZ (fun x hx=>h x (List.mem_cons_of_mem _ hx))]
  have:Nat.beq j i=false:=by
   cases hh:Nat.beq j i with
   | false=>rfl
   | true=>exact absurd (Nat.eq_of_beq_eq_true hh).symm (h (i,e) (by simp))
  rw [this]
  rfl

theorem fM:∀ (l:List D) (i:Nat) (x:Nat×Nat×Nat),x∈aR l i→i≤x.1
 | [],_,_,h=>by simp [aR] at h
 | d::l,i,x,h=>by
  have other:x∈aR l (i+1)→i≤x.1:=fun h=>by have:=fM l (i+1) x h; omega
  cases d with
  | slice t z n g =>
   cases t with
   | own j =>
    simp only [aR,List.mem_cons] at h
    rcases h with rfl | h
    ·exact Nat.le_refl _
    ·exact other h
   | _=>exact other h
  | _=>exact other h

def iB (l:List D) (i j:Nat):Option (Nat×Nat):=match nth l (j - i) .dead with
 | .slice (.own _) z n _=>if i≤j∧j < i+l.length then some (z,n) else none
 | _=>none

theorem eS:∀ (l:List D) (i:Nat) (tk:Nat→Option (Nat×Nat)) (j:Nat),cG tk (aR l i) j=match iB l i j with
  | some e=>some e
  | none=>tk j
 | [],i,tk,j=>by simp [aR,cG,iB,nth]
 | d::l,i,tk,j=>by
  have hlt:j < i→cG tk (aR (d::l) i) j=tk j:=fun h=>dZ fun x hx=>by have:=fM _ _ _ hx; omega
  rcases Nat.lt_trichotomy j i with h | h | h
  ·rw [hlt h]
   have:iB (d::l) i j=none:=by
    unfold iB
    split
    ·rw [if_neg (by omega)]
    ·rfl
   rw [this]
  ·subst h
   have h0:∀ tk',cG tk' (aR l (j+1)) j=tk' j:=fun tk'=>dZ fun x hx=>by have:=fM _ _ _ hx; omega
   cases d with
   | slice t z n g =>
    cases t with
    | own q =>
     simp only [aR,cG]
     rw [h0]
     simp [iB,nth]
    | ro=>simp only [aR]; rw [h0]; simp [iB,nth]
    | full=>simp only [aR]; rw [h0]; simp [iB,nth]
   | _=>simp only [aR]; rw [h0]; simp [iB,nth]
  ·have h1:iB (d::l) i j=iB l (i+1) j:=by
    unfold iB
    rw [show j - i=(j - (i+1))+1 from by omega]
    simp only [nth,List.length_cons]
    split
    ·congr 1
     simp only [eq_iff_iff]
     omega
    ·rfl
   rw [h1]
   cases d with
   | slice t z n g =>
    cases t with
    | own q =>
     simp only [aR,cG]
     rw [eS l (i+1)]
     have:Nat.beq j i=false:=by
      cases hh:Nat.beq j i with
      | false=>rfl
      | true=>have:=Nat.eq_of_beq_eq_true hh; omega
     rw [this]
     rfl
    | ro=>simp only [aR]; exact eS l (i+1) tk j
    | full=>simp only [aR]; exact eS l (i+1) tk j
   | _=>simp only [aR]; exact eS l (i+1) tk j

theorem b9 (l:List D):(aU l).length=l.length:=by
 induction l with
 | nil=>rfl
 | cons d l ih=>simp [aU,ih]

theorem fX (l:List D) (j:Nat):nth (aU l) j .dead=(nth l j .dead).res:=by
 induction l generalizing j with
 | nil=>rfl
 | cons d l ih=>cases j with
  | zero=>rfl
  | succ j=>exact ih j

theorem dN (l:List D) (i:Nat):(bW l i).length=l.length:=by
 induction l generalizing i with
 | nil=>rfl
 | cons d l ih =>
  cases d with
  | slice t z n g=>cases t <;> simp [bW,ih]
  | _=>simp [bW,ih]

def D.own (i:Nat):D→D
 | .slice (.own _) z n g=>.slice (.own i) z n g
 | d=>d

theorem lS (l:List D) (i j:Nat):nth (bW l i) j .dead=(nth l j .dead).own (i+j):=by
 induction l generalizing i j with
 | nil=>rfl
 | cons d l ih =>
  cases j with
  | zero =>
   cases d with
   | slice t z n g=>cases t <;> rfl
   | _=>rfl
  | succ j =>
   have h1:=ih (i+1) j
   rw [show i+1+j=i+(j+1) from by omega] at h1
   cases d with
   | slice t z n g=>cases t <;> exact h1
   | _=>exact h1

theorem cO (w:Bool) (cs:List D):(∃ w' z n g,cs=[.dead,.arr w' z n g]∧eW w cs=[.dead,.arr w z n g])∨(bN cs=false∧eW w cs=aI cs):=by
 cases h:bN cs with
 | true =>
  obtain ⟨w',z,n,g,rfl⟩:=cK h
  exact .inl ⟨w',z,n,g,rfl,rfl⟩
 | false =>
  refine .inr ⟨rfl,?_⟩
  unfold eW
  split
  ·cases h
  ·rfl

theorem mW {w:Bool} {cs:List D} (h:bN cs=false):eW w cs=aI cs:=by
 rcases cO w cs with ⟨_,_,_,_,rfl,_⟩ | ⟨_,h1⟩
 ·cases h
 ·exact h1

theorem wE:∀ (ids:List Nat) (bs:List (List D)) (hp0 hp:Nat→Option (Bool×List D)),cY ids=true→ids.length=bs.length→∀ j x,dT hp (bD hp0 ids bs) j=some x →
  (∃ k,k < ids.length∧ids.getD k 0=j∧x=(false,eW (flg hp0 j) (bs.getD k [])))∨(j ∉ ids∧hp j=some x)
 | [],[],hp0,hp,_,_,j,x,h=>.inr ⟨by simp,h⟩
 | [],_::_,_,_,_,h,_,_,_=>by simp at h
 | _::_,[],_,_,_,h,_,_,_=>by simp at h
 | id::ids,b::bs,hp0,hp,hd,hl,j,x,h=>by
  simp only [bD,dT] at h
  have hd2:ids.any (Nat.beq id)=false∧cY ids=true:=by
   simp only [cY] at hd
   cases hh:ids.any (Nat.beq id) with
   | true=>rw [hh] at hd; cases hd
   | false=>rw [hh] at hd; exact ⟨rfl,hd⟩
  rcases wE ids bs hp0 _ hd2.2 (by simpa using hl) j x h with ⟨k,h1,h2,h3⟩ | ⟨h1,h2⟩
  ·exact .inl ⟨k+1,by simpa using h1,by simpa using h2,by simpa using h3⟩
  ·rcases aX h2 with ⟨rfl,rfl⟩ | ⟨h3,h4⟩
   ·exact .inl ⟨0,by simp,by simp,by simp⟩
   ·exact .inr ⟨by simp [h1,h3],h4⟩

theorem d6:∀ {ids:List Nat} {bs:List (List D)},cN hp ids=some bs→ids.length=bs.length∧∀ k,k < ids.length→∃ cs,hp (ids.getD k 0)=some (false,cs)∧bs.getD k []=eW false cs∧okB (eW false cs)=true
 | [],bs,h=>by cases h; exact ⟨rfl,fun k hk=>by simp at hk⟩
 | id::l,bs,h=>by
  simp only [cN] at h
  split at h
  ·rename_i cs r h1 h2
   cases hs:okB (eW false cs) with
   | false=>rw [hs] at h; cases h
   | true =>
    rw [hs] at h
    cases h
    obtain ⟨h3,h4⟩:=d6 h2
    refine ⟨by simp [h3],fun k hk=>?_⟩
    cases k with
    | zero=>exact ⟨cs,by simpa using h1,by simp,hs⟩
    | succ k=>simpa using h4 k (by simpa using hk)
  ·cases h

theorem kG:∀ {l:List Nat},cY l=true→l.Nodup
 | [],_=>List.nodup_nil
 | a::l,h=>by
  simp only [cY] at h
  cases hh:l.any (Nat.beq a) with
  | true=>rw [hh] at h; cases h
  | false =>
   rw [hh] at h
   refine List.nodup_cons.2 ⟨fun hm=>?_,kG h⟩
   have:=List.any_eq_false.1 hh a hm
   rw [Nat.beq_refl] at this
   exact this rfl

theorem oY:∀ {bs bs':List (List D)},nY bs bs'=true→bs'.length=bs.length∧∀ k,k < bs.length→okB (eW false (bs'.getD k []))=true∧bN (bs'.getD k [])=bN (bs.getD k [])
 | [],[],_=>⟨rfl,fun k hk=>by simp at hk⟩
 | [],_::_,h=>by cases h
 | _::_,[],h=>by cases h
 | b::bs,c::bs',h=>by
  simp only [nY,Bool.and_eq_true] at h
  obtain ⟨h1,h2⟩:=oY h.2
  refine ⟨by simp [h1],fun k hk=>?_⟩
  cases k with
  | zero =>
   refine ⟨by simpa using h.1.1,?_⟩
   have:=h.1.2
   simp only [List.getD_cons_zero]
   cases h3:bN b <;> cases h4:bN c <;> simp [h3,h4,vJ] at this ⊢
  | succ k=>simpa using h2 k (by simpa using hk)

theorem aGY {σ':Sg} {B':Nat} {v:Value} {d:D} {i:Nat} (h:qC σ' w' B' v d) {G':Gh} {tk':Nat→Option (Nat×Nat)} (hσ:G'.σ=σ') (hown:∀ q z n g,d=.slice (.own q) z n g→tk' i=some (z,n)∧G'.ρ i=v):Rt F G' tk' v (d.res.own i):=by
 subst hσ
 cases d with
 | agg c =>
  obtain ⟨cs,rfl,h1,h2⟩:=h
  exact .agg cs (aI c) (by rw [aK]; exact h1) fun j hj=>by
   rw [aK] at hj
   rw [aV]
   exact ⟨h2 j hj,(bG _).symm⟩
 | slice t z n g =>
  cases t with
  | own q =>
   obtain ⟨h1,h2⟩:=hown q z n g rfl
   refine .cell (.pure ?_ ?_)
   ·cases h.1 with
    | slice a _ c _ _ _ b o val e1 e2 e3 e4 e5=>exact .slice a n c _ z g b o val e1 e2 e3 e4 e5
   ·intro z' m' hz
    rw [h1] at hz
    cases hz
    exact ⟨Nat.le_refl _,fun _=>h2.symm⟩
  | ro=>exact .cell (.pure h trivial)
  | full=>exact .cell (.pure h trivial)
 | newp l=>exact .cell (.pure (.dead _) trivial)
 | _=>exact .cell (.pure h trivial)

def fE (G:Gh) (hp:Nat→Option (Bool×List D)) (hs id k:Nat):Nat :=
 match hp id with
 | some (_,[.dead,.arr _ _ n _])=>match G.η id n with
  | some (.slice (some a) _ (_+1))=>a.block
  | _=>hs+k
 | _=>G.β id

def fH (G:Gh) (hp:Nat→Option (Bool×List D)) (hs:Nat):List Nat→Nat→List Nat
 | [],_=>[]
 | id::l,k=>fE G hp hs id k::fH G hp hs l (k+1)

theorem iP:∀ (l:List Nat) (hs k:Nat),(fH G hp hs l k).length=l.length
 | [],_,_=>rfl
 | id::l,hs,k=>by simp [fH,iP l]

theorem lQ:∀ (l:List Nat) (hs k j:Nat),j < l.length→(fH G hp hs l k).getD j 0=fE G hp hs (l.getD j 0) (k+j)
 | [],_,_,_,h=>by simp at h
 | id::l,hs,k,0,_=>rfl
 | id::l,hs,k,j+1,h=>by
  have:=lQ l hs (k+1) j (by simpa using h)
  simp only [fH,List.getD_cons_succ]
  rw [this,show k+1+j=k+(j+1) from by omega]

def q6 (G:Gh) (hp:Nat→Option (Bool×List D)) (ids:List Nat):Nat→Nat→Option Value:=fun k m =>
 if k < ids.length then (match hp (ids.getD k 0) with
  | some (_,[.dead,.arr _ _ n _])=>if m=n then G.η (ids.getD k 0) n else none
  | _=>none) else none

def kR (G:Gh) (hp:Nat→Option (Bool×List D)) (ids:List Nat):Og:=⟨G.σ,q6 G hp ids⟩

theorem i7 {hs id k:Nat} {f:Bool} {cs:List D} (h:hp id=some (f,cs)) (ha:bN cs=false):fE G hp hs id k=G.β id:=by
 unfold fE
 rw [h]
 split
 ·rename_i h1
  cases h1
  cases ha
 ·rfl

theorem pG {hs id k:Nat} {f fw:Bool} {z n:Nat} {g:Nat→List D} {b c:Nat} (h:hp id=some (f,[.dead,.arr fw z n g])) (hη:G.η id n=some (.slice (some ⟨b,0,none⟩) n c)) (hc:0 < c):fE G hp hs id k=b:=by
 unfold fE
 rw [h]
 simp only [hη]
 cases c with
 | zero=>omega
 | succ c=>rfl

theorem aA3 {hs id k:Nat} {f fw:Bool} {z n:Nat} {g:Nat→List D} {a:Option Addr} (h:hp id=some (f,[.dead,.arr fw z n g])) (hη:G.η id n=some (.slice a n 0)):fE G hp hs id k=hs+k:=by
 unfold fE
 rw [h]
 simp only [hη]

theorem lK {ids:List Nat} {k:Nat} {f fw:Bool} {z n:Nat} {g:Nat→List D} (hk:k < ids.length) (h:hp (ids.getD k 0)=some (f,[.dead,.arr fw z n g])) (m:Nat):q6 G hp ids k m=if m=n then G.η (ids.getD k 0) n else none:=by
 unfold q6
 rw [if_pos hk,h]

theorem vM (m:Mem F B np w0 ext σ0 G hp tk w) {ids:List Nat} {bs:List (List D)} (hb:cN hp ids=some bs) {k:Nat} (hk:k < ids.length) :
  bX G hp tk (fE G hp w.heap.size (ids.getD k 0) k) (.inl (ids.getD k 0))∨fE G hp w.heap.size (ids.getD k 0) k=w.heap.size+k:=by
 obtain ⟨_,hbs⟩:=d6 hb
 obtain ⟨cs,h1,h2,h3⟩:=hbs k hk
 cases ha:bN cs with
 | false =>
  rw [i7 h1 ha]
  exact .inl ⟨cs,h1,.inl ⟨ha,rfl⟩⟩
 | true =>
  obtain ⟨fw,z,n,g,rfl⟩:=cK ha
  obtain ⟨a,c,hd,_⟩:=m.rows _ fw z n g h1
  by_cases hc:0 < c
  ·obtain ⟨b,rfl⟩:=hd.blk hc
   rw [pG h1 hd.at_ hc]
   exact .inl ⟨_,h1,.inr ⟨fw,z,n,g,c,rfl,hd.at_,hc⟩⟩
  ·have:c=0:=by omega
   subst this
   exact .inr (aA3 h1 hd.at_)

theorem zC (r:Rel F B np w0 ext σ0 G s a w) {id:Nat} (hnp:np≤id) (hcl:Clean id (id+4) s) {ids:List Nat} {bs bs':List (List D)} (hb:cN s.hp ids=some bs) (hd:cY ids=true) {σ':Sg} {rs:List D} {vs:Array Value}
  (post:CPost (kR G s.hp ids) w (fH G s.hp w.heap.size ids 0) w' σ' rs bs' vs) (hback:nY bs bs'=true) (h4:rs.length≤4) :
  ∃ G',G'.σ=σ'∧Keeps id (id+4) G G' s.tk (cG s.tk (aR (aU rs) id))∧Mem F B np w0 ext σ0 G' (dT s.hp (bD s.hp ids bs')) (cG s.tk (aR (aU rs) id)) w' ∧
   (∀ b k,bX G' (dT s.hp (bD s.hp ids bs')) (cG s.tk (aR (aU rs) id)) b k→b < w.heap.size∨∃ j q z n g,j < rs.length∧nth rs j .dead=.slice (.own q) z n g) ∧
   ∀ j,j < rs.length→Rt F G' (cG s.tk (aR (aU rs) id)) (vs.getD j undef) (nth (bW (aU rs) id) j .dead):=by
 have m:=r.mem
 obtain ⟨hl,hbs⟩:=d6 hb
 obtain ⟨hlen,hbk⟩:=oY hback
 have hxl:(fH G s.hp w.heap.size ids 0).length=ids.length:=iP _ _ _
 have hext:∀ k,k < ids.length→(fH G s.hp w.heap.size ids 0).getD k 0=fE G s.hp w.heap.size (ids.getD k 0) k:=by
  intro k hk
  rw [lQ _ _ _ _ hk,Nat.zero_add]
 have hmem:∀ b,b∈fH G s.hp w.heap.size ids 0→∃ k,k < ids.length∧b=fE G s.hp w.heap.size (ids.getD k 0) k:=by
  intro b hb
  obtain ⟨k,hk,rfl⟩:=List.mem_iff_getElem.1 hb
  rw [hxl] at hk
  exact ⟨k,hk,by rw [← hext k hk]; simp [hxl,hk]⟩
 have hlt:∀ k,k < ids.length→bX G s.hp s.tk (fE G s.hp w.heap.size (ids.getD k 0) k) (.inl (ids.getD k 0))∨fE G s.hp w.heap.size (ids.getD k 0) k=w.heap.size+k:=fun k hk=>vM m hb hk
 have hrow:∀ k f z n g,k < ids.length→bs'.getD k []=[.dead,.arr f z n g]→∃ fw z0 g0 a c,s.hp (ids.getD k 0)=some (false,[.dead,.arr fw z0 n g0])∧aGF np σ0.η G.η (ids.getD k 0) fw n a c ∧
   (∀ b,a=some ⟨b,0,none⟩→0 < c→fE G s.hp w.heap.size (ids.getD k 0) k=b∧b < w.heap.size∧(∀ q,G.σ b q=none)∧∃ o,w'.heap[b]? = some o∧RowO σ' o z n c g):=by
  intro k f z n g hk hbk'
  obtain ⟨cs0,h5,h6,_⟩:=hbs k hk
  have ha:bN cs0=true:=by
   have h1:=(hbk k (by omega)).2
   rw [hbk'] at h1
   rcases cO false cs0 with ⟨_,_,_,_,rfl,_⟩ | ⟨h7,h8⟩
   ·rfl
   ·rw [h6,h8] at h1
    have h9:bN (aI cs0)=false:=by
     cases hh:bN (aI cs0) with
     | false=>rfl
     | true =>
      obtain ⟨w1,z1,n1,g1,e1⟩:=cK hh
      have e2:=aV cs0 1
      rw [e1] at e2
      generalize nth cs0 1 D.dead=d at e2
      cases d <;> simp [nth,D.pure1] at e2
    rw [h9] at h1
    cases h1
  obtain ⟨fw,z0,n0,g0,rfl⟩:=cK ha
  obtain ⟨a,c,h7,h8⟩:=m.rows _ fw z0 n0 g0 h5
  obtain ⟨a',c',h9,h10⟩:=post.rows k f z n g (by omega) (by omega) hbk'
  have h11:q6 G s.hp ids k n=some (.slice a' n c'):=h9
  rw [lK hk h5] at h11
  by_cases hn:n=n0
  ·subst hn
   rw [if_pos rfl,h7.at_] at h11
   cases h11
   refine ⟨fw,z0,g0,a,c,h5,h7,fun b hab hc=>?_⟩
   subst hab
   have h12:=pG (hs:=w.heap.size) (k:=k) h5 h7.at_ hc
   obtain ⟨h13,o,h14,_⟩:=h8 b rfl hc
   obtain ⟨o',h15,h16⟩:=h10 b rfl hc
   exact ⟨h12,(Array.getElem?_eq_some_iff.1 h14).1,h13,o',h15,h16⟩
  ·rw [if_neg hn] at h11
   cases h11
 have hflat:∀ k,k < ids.length→bN (bs'.getD k [])=false→∃ cs0,s.hp (ids.getD k 0)=some (false,cs0)∧bN cs0=false:=by
  intro k hk h1
  obtain ⟨cs0,h5,h6,_⟩:=hbs k hk
  refine ⟨cs0,h5,?_⟩
  have h2:=(hbk k (by omega)).2
  rw [h1,h6] at h2
  rcases cO false cs0 with ⟨_,_,_,_,rfl,h8⟩ | ⟨h7,h8⟩
  ·rw [h8] at h2
   cases h2
  ·exact h7
 let G':Gh:=⟨σ',G.β,fun i=>if id≤i∧i < id+rs.length then vs.getD (i - id) undef else G.ρ i,G.η⟩
 have htk:∀ j z n,cG s.tk (aR (aU rs) id) j=some (z,n)→(id≤j∧j < id+rs.length∧∃ q g,nth rs (j - id) .dead=.slice (.own q) z n g)∨(s.tk j=some (z,n)∧¬(id≤j∧j < id+4)):=by
  intro j z n h
  rw [eS] at h
  split at h
  ·rename_i e he
   cases h
   unfold iB at he
   split at he
   ·rename_i q z' n' g hq
    split at he
    ·rename_i hr
     cases he
     rw [b9] at hr
     rw [fX] at hq
     refine .inl ⟨hr.1,hr.2,q,g,?_⟩
     generalize nth rs (j - id) .dead=d at hq
     cases d with
     | slice t z' n' g'=>cases t <;> simp_all [D.res,D.pure1]
     | _=>simp [D.res,D.pure1] at hq
    ·cases he
   ·cases he
  ·exact .inr ⟨h,hcl.tk _ _ h⟩
 have keeps:Keeps id (id+4) G G' s.tk (cG s.tk (aR (aU rs) id)):=by
  refine ⟨post.le,fun _ _=>rfl,fun i z n hi h=>?_,fun _ _ _ _ h=>h⟩
  rcases htk i z n h with ⟨h1,h2,_⟩ | ⟨h1,_⟩
  ·exact absurd ⟨h1,by omega⟩ hi
  ·exact ⟨z,n,h1,Nat.le_refl _,fun _=>by show (if id≤i∧i < id+rs.length then _ else G.ρ i)=G.ρ i; rw [if_neg (by omega)]⟩
 have keepB:∀ b,b < w.heap.size→(∀ k,k < ids.length→b≠fE G s.hp w.heap.size (ids.getD k 0) k)→w'.heap[b]? = w.heap[b]?:=fun b h1 h2=>post.keep b h1 fun h=>by
  obtain ⟨k,hk,h3⟩:=hmem b h
  exact h2 k hk h3
 have keepO:∀ b k0,bX G s.hp s.tk b k0→(∀ k,k < ids.length→k0≠.inl (ids.getD k 0))→w'.heap[b]? = w.heap[b]?:=fun b k0 h1 h2=>keepB b (m.own_lt h1) fun k hk hh=>by
  rcases hlt k hk with h3 | h3
  ·rw [← hh] at h3
   exact h2 k hk (m.own1 _ _ _ h1 h3)
  ·have:=m.own_lt h1
   omega
 have resAt:∀ j q z n g,id≤j→j < id+rs.length→nth rs (j - id) .dead=.slice (.own q) z n g→∃ a' c,G'.ρ j=.slice a' n c∧n≤c∧(n < c→∃ b cur e,a'=some ⟨b,0,none⟩∧w'.heap[b]? = some (.cells cur e (0,0))∧cur.size=c * z∧(∀ o,n * z≤o→σ' b o=none)∧w.heap.size≤b):=by
  intro j q z n g h1 h2 h3
  have:=post.res (j - id) (by omega)
  rw [h3] at this
  obtain ⟨_,a',c,h5,h6,h7⟩:=this
  refine ⟨a',c,?_,h6,h7⟩
  show (if id≤j∧j < id+rs.length then _ else _)=_
  rw [if_pos ⟨h1,h2⟩,h5]
 have hz:=wE ids bs' s.hp s.hp hd (by omega)
 have hpos:∀ k,k < ids.length→ids.getD k 0∈ids:=fun k hk=>by rw [List.getD_eq_getElem?_getD]; simp [hk]
 have hown:∀ b k,bX G' (dT s.hp (bD s.hp ids bs')) (cG s.tk (aR (aU rs) id)) b k→bX G s.hp s.tk b k∨(w.heap.size≤b∧∃ j,k=.inr j∧id≤j∧j < id+rs.length∧cV (vs.getD (j - id) undef) (nth rs (j - id) .dead) b):=by
  intro b k hk
  cases k with
  | inl j =>
   obtain ⟨cs,h1,h2⟩:=hk
   have h2:Blk G j cs b:=h2
   rcases hz j _ h1 with ⟨k,hk,rfl,h3⟩ | ⟨_,h3⟩
   ·simp only [Prod.mk.injEq,true_and] at h3
    rcases cO (flg s.hp (ids.getD k 0)) (bs'.getD k []) with ⟨f,z,n,g,e1,e2⟩ | ⟨e1,e2⟩
    ·rw [e2] at h3
     subst h3
     obtain ⟨fw,z0,g0,a',c,h5,h6,_⟩:=hrow k f z n g hk e1
     rcases h2 with ⟨h7,_⟩ | ⟨_,_,_,_,c',h7,h8,h9⟩
     ·cases h7
     ·cases h7
      exact .inl ⟨_,h5,.inr ⟨_,_,_,_,c',rfl,h8,h9⟩⟩
    ·obtain ⟨cs0,h5,h6⟩:=hflat k hk e1
     refine .inl ⟨cs0,h5,.inl ⟨h6,h2.flat ?_⟩⟩
     rw [h3,e2]
     cases hh:bN (aI (bs'.getD k [])) with
     | false=>rfl
     | true =>
      obtain ⟨w1,z1,n1,g1,e3⟩:=cK hh
      have e4:=aV (bs'.getD k []) 1
      rw [e3] at e4
      generalize nth (bs'.getD k []) 1 D.dead=d at e4
      cases d <;> simp [nth,D.pure1] at e4
   ·exact .inl ⟨cs,h3,h2⟩
  | inr j =>
   obtain ⟨z,n,c,h1,h2,h3⟩:=hk
   rcases htk j z n h1 with ⟨h5,h6,q,g,h7⟩ | ⟨h5,h6⟩
   ·obtain ⟨a',c',h8,h9,h10⟩:=resAt j q z n g h5 h6 h7
    rw [h2] at h8
    cases h8
    obtain ⟨b',cur,e,h11,_,_,_,h12⟩:=h10 h3
    cases h11
    refine .inr ⟨h12,j,rfl,h5,h6,q,z,n,g,c,h7,?_,h3⟩
    have:G'.ρ j=vs.getD (j - id) undef:=by
     show (if id≤j∧j < id+rs.length then _ else _)=_
     rw [if_pos ⟨h5,h6⟩]
    rw [← this]
    exact h2
   ·refine .inl ⟨z,n,c,h5,?_,h3⟩
    rw [← h2]
    show G.ρ j=(if id≤j∧j < id+rs.length then _ else G.ρ j)
    rw [if_neg (by omega)]
 have mem:Mem F B np w0 ext σ0 G' (dT s.hp (bD s.hp ids bs')) (cG s.tk (aR (aU rs) id)) w':=by
  refine ⟨post.stab,fun b o hB=>?_,post.os.trans m.os,post.tape.trans m.tape,post.output.trans m.output,Nat.le_trans m.base post.base,fun b hB he=>?_,fun j cs h hna=>?_,fun j fw z n g h=>?_,fun j cs h=>?_,fun j z n h=>?_,fun b k k' h h'=>?_,fun b k h=>?_⟩
  ·rw [← m.old b o hB]
   exact post.old b o (Nat.lt_of_lt_of_le hB m.base)
  ·rw [← m.keep b hB he]
   refine keepB b (Nat.lt_of_lt_of_le hB m.base) fun k hk hbk=>?_
   have:=m.base
   rcases hlt k hk with h | h
   ·rcases m.own2 _ _ h with h | ⟨h,_⟩
    ·omega
    ·rw [← hbk] at h
     exact he h
   ·omega
  ·rcases hz j _ h with ⟨k,hk,rfl,h3⟩ | ⟨h2,h3⟩
   ·simp only [Prod.mk.injEq,true_and] at h3
    subst h3
    rcases cO (flg s.hp (ids.getD k 0)) (bs'.getD k []) with ⟨f,z,n,g,e1,e2⟩ | ⟨e1,e2⟩
    ·rw [e2] at hna
     cases hna
    ·rw [e2]
     obtain ⟨cs0,h5,h50⟩:=hflat k hk e1
     obtain ⟨_,_,_,h6⟩:=m.vars _ cs0 h5 h50
     have ow:bX G s.hp s.tk (G.β (ids.getD k 0)) (.inl (ids.getD k 0)):=⟨cs0,h5,.inl ⟨h50,rfl⟩⟩
     have hsol:aG (aI (bs'.getD k []))=true:=by
      have:=(hbk k (by omega)).1
      rw [mW e1] at this
      unfold okB at this
      rw [e2] at hna
      rw [hna,Bool.or_false] at this
      exact this
     obtain ⟨c,e,h7,h8,h9⟩:=post.blocks k (by omega) (by omega) hsol
     rw [hext k hk,i7 h5 h50] at h7
     refine ⟨_,h7,.inl ⟨hsol,c,e,rfl,by rw [aK]; exact h8,fun q hq=>?_⟩,fun o=>?_⟩
     ·rw [aK] at hq
      rw [aV]
      exact .pure (h9 q hq) (b7 _ _)
     ·show σ' (G.β _) o=none
      rw [post.old _ o (m.own_lt ow)]
      exact h6 o
   ·obtain ⟨o1,h6,h8,h9⟩:=m.vars j cs h3 hna
    have ow:bX G s.hp s.tk (G.β j) (.inl j):=⟨cs,h3,.inl ⟨hna,rfl⟩⟩
    refine ⟨o1,?_,h8.imp fun q v hq hr=>hr.keep keeps (dG (hcl.hp j _ cs h3).2 hq),fun o=>?_⟩
    ·show w'.heap[G.β j]? = _
     rw [keepO _ _ ow fun k hk hh=>h2 (by cases hh; exact hpos k hk)]
     exact h6
    ·show σ' (G.β j) o=none
     rw [post.old _ o (m.own_lt ow)]
     exact h9 o
  ·rcases hz j _ h with ⟨k,hk,rfl,h3⟩ | ⟨h2,h3⟩
   ·simp only [Prod.mk.injEq,true_and] at h3
    rcases cO (flg s.hp (ids.getD k 0)) (bs'.getD k []) with ⟨f,z1,n1,g1,e1,e2⟩ | ⟨e1,e2⟩
    ·rw [e2] at h3
     obtain ⟨fw0,z0,g0,a',c,h5,h6,h7⟩:=hrow k f z1 n1 g1 hk e1
     have hfl:flg s.hp (ids.getD k 0)=fw0:=by unfold flg; rw [h5]
     rw [hfl] at h3
     cases h3
     refine ⟨a',c,h6,fun b hb hc=>?_⟩
     obtain ⟨_,h8,h9,o,h10,h11⟩:=h7 b hb hc
     exact ⟨fun q=>(post.old b q h8).trans (h9 q),o,h10,h11⟩
    ·rw [e2] at h3
     have e4:=aV (bs'.getD k []) 1
     rw [← h3] at e4
     generalize nth (bs'.getD k []) 1 D.dead=d at e4
     cases d <;> simp [nth,D.pure1] at e4
   ·obtain ⟨a',c,h6,h7⟩:=m.rows j fw z n g h3
    refine ⟨a',c,h6,fun b hb hc=>?_⟩
    obtain ⟨h9,o,h10,h11⟩:=h7 b hb hc
    have ow:bX G s.hp s.tk b (.inl j):=⟨_,h3,.inr ⟨fw,z,n,g,c,rfl,by rw [h6.at_,hb],hc⟩⟩
    refine ⟨fun q=>(post.old b q (m.own_lt ow)).trans (h9 q),o,?_,h11.mono post.le⟩
    rw [keepO _ _ ow fun k hk hh=>h2 (by cases hh; exact hpos k hk)]
    exact h10
  ·rcases hz j _ h with ⟨k,hk,h2,h3⟩ | ⟨h2,h3⟩
   ·cases h3
   ·intro q hq
    obtain ⟨v,h5,h6,h7⟩:=m.froz j cs h3 q hq
    exact ⟨v,post.le _ _ _ h5,h6.mono post.le,h7⟩
  ·rcases htk j z n h with ⟨h5,h6,q,g,h7⟩ | ⟨h5,h6⟩
   ·obtain ⟨a',c',h8,h9,h10⟩:=resAt j q z n g h5 h6 h7
    refine ⟨a',c',h8,h9,fun hn=>?_⟩
    obtain ⟨b,cur,e,e1,e2,e3,e4,_⟩:=h10 hn
    exact ⟨b,cur,e,e1,e2,e3,e4⟩
   ·obtain ⟨a',c',h8,h9,h10⟩:=m.toks j z n h5
    refine ⟨a',c',?_,h9,fun hn=>?_⟩
    ·show (if id≤j∧j < id+rs.length then _ else G.ρ j)=_
     rw [if_neg (by omega)]
     exact h8
    ·obtain ⟨b,cur,e,e1,e2,e3,e4⟩:=h10 hn
     have ow:bX G s.hp s.tk b (.inr j):=⟨z,n,c',h5,by rw [h8,e1],hn⟩
     refine ⟨b,cur,e,e1,?_,e3,fun o ho=>?_⟩
     ·rw [keepO _ _ ow fun k hk hh=>by cases hh]
      exact e2
     ·show σ' b o=none
      rw [post.old _ o (m.own_lt ow)]
      exact e4 o ho
  ·rcases hown b k h with h1 | ⟨h1,j,rfl,h2,h3,h5⟩
   ·rcases hown b k' h' with h6 | ⟨h6,_⟩
    ·exact m.own1 b k k' h1 h6
    ·have:=m.own_lt h1
     omega
   ·rcases hown b k' h' with h6 | ⟨h6,j',rfl,h7,h8,h9⟩
    ·have:=m.own_lt h6
     omega
    ·have:=post.own (j - id) (j' - id) b (by omega) (by omega) h5 h9
     congr 1
     omega
  ·rcases hown b k h with h1 | ⟨h1,_⟩
   ·exact m.own2 b k h1
   ·exact .inl (Nat.le_trans m.base h1)
 have tokSome:∀ j q z n g,j < rs.length→nth rs j .dead=.slice (.own q) z n g→cG s.tk (aR (aU rs) id) (id+j)=some (z,n)∧G'.ρ (id+j)=vs.getD j undef:=by
  intro j q z n g hj hr
  refine ⟨?_,?_⟩
  ·rw [eS]
   have:iB (aU rs) id (id+j)=some (z,n):=by
    unfold iB
    rw [show id+j - id=j from by omega,fX,hr]
    simp only [D.res,b9]
    rw [if_pos (by omega)]
   rw [this]
  ·show (if id≤id+j∧id+j < id+rs.length then _ else _)=_
   rw [if_pos (by omega),show id+j - id=j from by omega]
 have rts:∀ j,j < rs.length→Rt F G' (cG s.tk (aR (aU rs) id)) (vs.getD j undef) (nth (bW (aU rs) id) j .dead):=by
  intro j hj
  rw [lS,fX]
  exact aGY (post.res j hj) rfl fun q z n g hr=>tokSome j q z n g hj hr
 refine ⟨G',rfl,keeps,mem,fun b k hk=>?_,rts⟩
 rcases hown b k hk with h | ⟨_,j,_,h1,h2,q,z,n,g,c,h3,_⟩
 ·exact .inl (m.own_lt h)
 ·exact .inr ⟨j - id,q,z,n,g,by omega,h3⟩

theorem kJ {lo hi:Nat} (f:Bool) (cs:List D):names lo hi (eW f cs)=false:=by
 rcases cO f cs with ⟨_,z,n,g,rfl,e⟩ | ⟨_,e⟩
 ·rfl
 ·rw [e]
  exact cX _

theorem aA9 (r:Rel F B np w0 ext σ0 G s a w) {id:Nat} (hnp:np≤id) (hcl:Clean id (id+4) s) {ids:List Nat} {bs bs':List (List D)} (hb:cN s.hp ids=some bs) (hd:cY ids=true) {σ':Sg} {rs:List D} {vs:Array Value}
  (post:CPost (kR G s.hp ids) w (fH G s.hp w.heap.size ids 0) w' σ' rs bs' vs) (hback:nY bs bs'=true) (h4:rs.length≤4) (dst:Option Nat) :
  ∃ G',Rel F B np w0 ext σ0 G' (s.next dst (jF (bW (aU rs) id)) ⟨bD s.hp ids bs',aR (aU rs) id⟩) (a.put dst (fA vs)) w':=by
 obtain ⟨G',_,keeps,mem,_,rts⟩:=zC r hnp hcl hb hd post hback h4
 refine ⟨G',r.put hnp hcl keeps mem ?_ dst⟩
 have hsz:=post.size
 match rs,hsz,rts with
 | [d],hsz,rts =>
  have h1:=rts 0 (by simp)
  have e:bW (aU [d]) id=[nth (bW (aU [d]) id) 0 .dead]:=by
   cases hq:bW (aU [d]) id with
   | nil=>have:=dN (aU [d]) id; rw [hq] at this; simp [b9] at this
   | cons x l =>
    have:=dN (aU [d]) id
    rw [hq] at this
    simp [b9] at this
    subst this
    rfl
  rw [e]
  have e2:fA vs=vs.getD 0 undef:=by
   have:vs.size=1:=hsz
   simp [fA,this,Array.getD_eq_getD_getElem?]
  rw [e2]
  exact .any h1.ra
 | [],hsz,rts =>
  have e2:fA vs=.tuple vs:=by
   have:vs.size=0:=hsz
   simp [fA,this]
  rw [e2]
  exact .tup vs [] hsz fun j hj=>by simp at hj
 | d::d'::l,hsz,rts =>
  have e2:fA vs=.tuple vs:=by
   have:¬vs.size=1:=by rw [hsz]; simp
   simp [fA,this]
  have e1:jF (bW (aU (d::d'::l)) id)=.tup (bW (aU (d::d'::l)) id):=by
   have:=dN (aU (d::d'::l)) id
   generalize bW (aU (d::d'::l)) id=x at this
   match x,this with
   | a::b::c,_=>rfl
  rw [e1,e2]
  exact .tup vs _ (by rw [dN,b9]; exact hsz) fun j hj=>rts j (by rw [dN,b9] at hj; exact hj)

theorem aD8 (hp:Nat→Option (Bool×List D)) (l m:List (Nat×Bool×List D)):dT hp (l++m)=dT (dT hp l) m:=by
 induction l generalizing hp with
 | nil=>rfl
 | cons x l ih=>obtain ⟨i,e⟩:=x; simp only [List.cons_append,dT,ih]

theorem sA (r:Rel F B np w0 ext σ0 G s a w) {id:Nat} (hnp:np≤id) (hcl:Clean id (id+4) s) {ids:List Nat} {bs bs':List (List D)} (hb:cN s.hp ids=some bs) (hd:cY ids=true) {σ':Sg} {l:List D} {vs:Array Value}
  (post:CPost (kR G s.hp ids) w (fH G s.hp w.heap.size ids 0) w' σ' [.newp l] bs' vs) (hback:nY bs bs'=true) (hl:aG (aI l)=true) (dst:Option Nat) :
  ∃ G',Rel F B np w0 ext σ0 G' (s.next dst (.ptr id 0) ⟨bD s.hp ids bs'++[(id,false,aI l)],[]⟩) (a.put dst (fA vs)) w':=by
 have hres:=post.res 0 (by simp)
 simp only [nth] at hres
 obtain ⟨b,c,e,hv,hB,hc,hcs,hrp,hσ⟩:=hres
 have post':CPost (kR G s.hp ids) w (fH G s.hp w.heap.size ids 0) w' σ' [.dead] bs' vs :=
  { post with
   size:=post.size
   res:=fun j hj=>by
    have:j=0:=by simpa using hj
    subst this
    exact .dead _
   own:=fun i j b hi hj _ _=>by simp at hi hj; omega }
 obtain ⟨G',hσ',keeps,mem,hown,_⟩:=zC r hnp hcl hb hd post' hback (by simp)
 have hlow:∀ k,¬bX G' (dT s.hp (bD s.hp ids bs')) (cG s.tk (aR (aU [.dead]) id)) b k:=fun k hk=>by
  rcases hown b k hk with h | ⟨j,q,z,n,g,h1,h2⟩
  ·omega
  ·have:j=0:=by simpa using h1
   subst this
   cases h2
 have hclean:∀ id' f cs',dT s.hp (bD s.hp ids bs') id'=some (f,cs')→id'≠id∧names id (id+1) cs'=false:=by
  intro id' f cs' h
  obtain ⟨hl',hbs⟩:=d6 hb
  rcases wE ids bs' s.hp s.hp hd (by have:=(oY hback).1; omega) id' _ h with ⟨k,hk,rfl,h3⟩ | ⟨_,h3⟩
  ·obtain ⟨cs0,h5,_⟩:=hbs k hk
   have:=(hcl.hp _ _ _ h5).1
   refine ⟨by omega,?_⟩
   cases h3
   exact kJ _ _
  ·have:=hcl.hp _ _ _ h3
   exact ⟨by omega,dB this.2 (Nat.le_refl _) (by omega)⟩
 have m2:=mem.addVar id b (aI l) c e hc hl (by rw [aK]; exact hcs) (fun j hj=>by
   rw [aK] at hj
   rw [aV]
   exact .pure (by rw [hσ']; exact hrp j hj) (b7 _ _)) (fun o=>by rw [hσ']; exact hσ o) hlow (.inl (Nat.le_trans r.mem.base hB))
  (by
   cases hh:dT s.hp (bD s.hp ids bs') id with
   | none=>rfl
   | some x=>exact absurd rfl (hclean id x.1 x.2 hh).1)
  (fun id' f cs' h=>(hclean id' f cs' h).2)
 refine ⟨{ G' with β:=fun j=>if j=id then b else G'.β j },?_⟩
 have kk:Keeps id (id+4) G { G' with β:=fun j=>if j=id then b else G'.β j } s.tk s.tk :=
  ⟨keeps.σ,fun j hj=>by simp only; rw [if_neg (by omega)]; exact keeps.β j hj,fun i z m hi h=>keeps.tok i z m hi h,fun i n v hi h=>keeps.row i n v hi h⟩
 have hput:=r.put (d:=.ptr id 0) (v:=fA vs) hnp hcl kk m2 (by
  have e2:fA vs=vs.getD 0 undef:=by
   have:vs.size=1:=post.size
   simp [fA,this,Array.getD_eq_getD_getElem?]
  rw [e2,hv]
  have:=Rc.ptr (F:=F) (G:={ G' with β:=fun j=>if j=id then b else G'.β j }) (tk:=s.tk) id 0
  simp only [if_true] at this
  exact .any (.cell this)) dst
 unfold St.next
 rw [aD8]
 exact hput

end
end Go.Abs

/- One operation,a call or not,as a step from state to state. -/
namespace Go.Abs
open Go

section
variable {P:Program} {F:Nat→FuncId} {B np:Nat} {w0 w w':World} {ext:List Nat} {σ0:Og} {G G':Gh} {s:St} {a:Act} {ft:FT} {hp:Nat→Option (Bool×List D)} {tk:Nat→Option (Nat×Nat)} {lo hi:Nat} {E:Env}

theorem lE:∀ {l:List D},aG (aI l)=true→aG l=true
 | [],_=>rfl
 | d::l,h=>by
  cases d <;> first | (simp only [aI,D.pure1,aG] at h; exact lE (l:=l) h) | (simp [aI,D.pure1,aG] at h; done)

theorem iG:∀ (l:List D) (j:Nat),(kD l j).length=l.length
 | [],_=>rfl
 | d::l,j=>by cases d <;> simp [kD,iG l]

theorem Rc.pured {v:Value} {d:D} (h:Rc F G tk v d) {G1:Gh} (e:G1.σ=G.σ) (hp:∀ i o,d≠.ptr i o):Rc F G1 (fun _=>none) v d.pure:=by
 cases h with
 | pure h1 h2 =>
  have h3:Rp G1.σ v d.pure1:=e ▸ h1.pure1
  have:d.pure=d.pure1:=by cases h1 <;> rfl
  rw [this]
  exact .pure h3 (b7 _ _)
 | ptr i o=>exact absurd rfl (hp i o)
 | eptr b o l h1=>exact .eptr b o l (e ▸ h1)
 | fn f cap l h1 h2=>exact .fn f cap l h1 fun j hj=>e ▸ h2 j hj
 | mp _ _ _ _ _ _ _ _ _ _=>exact .pure (.dead _) trivial

theorem Rd.pured {v:Value} {d:D} (h:Rd F G tk v d) {G1:Gh} (e:G1.σ=G.σ) (hp:∀ i o,d≠.ptr i o):Rd F G1 (fun _=>none) v d.pure:=by
 cases h with
 | any h =>
  cases h with
  | cell h=>exact .any (.cell (h.pured e hp))
  | agg cs l h1 h2 =>
   refine .any (.agg cs (aI l) (by rw [aK]; exact h1) fun j hj=>?_)
   rw [aK] at hj
   rw [aV]
   exact .pure (e ▸ (h2 j hj).pure1) (b7 _ _)
 | tup vs l h1 h2=>exact Rd.dead _
 | mref id=>exact Rd.dead _
 | msl _ _ _ _ _ _ _ _=>exact Rd.dead _
 | rptr _ _ _ _ _ _ _ _=>exact Rd.dead _

theorem kZ:∀ (l:List D) (bs:List (List D)) (k:Prop),l7 l bs k↔l7 l bs True∧k
 | [],_,k=>by simp [l7]
 | d::l,bs,k=>by
  have ih:=fun bs=>kZ l bs k
  cases d with
  | ptr i o =>
   simp only [l7]
   cases bN (bs.headD []) with
   | true=>simp [Br]
   | false=>exact ih _
  | msl i z n =>
   simp only [l7]
   cases q8 (bs.headD []) with
   | none=>simp
   | some m =>
    simp only
    rw [ih bs.tail]
    constructor
    ·rintro ⟨h1,h2,h3⟩; exact ⟨⟨h1,h2⟩,h3⟩
    ·rintro ⟨⟨h1,h2⟩,h3⟩; exact ⟨h1,h2,h3⟩
  | _=>exact ih _

theorem aAN {b:List D} {m:Nat} (h:q8 b=some m):∃ w z g,b=[.dead,.arr w z m g]:=by
 unfold q8 at h
 split at h
 ·cases h
  exact ⟨_,_,_,rfl⟩
 ·cases h

theorem qL {ids:List Nat} {hs:Nat}:∀ (l:List D) (vals:List Value) (bs:List (List D)) (p:Nat),(∀ i,i < l.length→Rd F G tk (vals.getD i undef) (nth l i .dead))→l7 l bs True →
  (∀ k,k < (ptrs l).length→p+k < ids.length∧ids.getD (p+k) 0=(ptrs l).getD k 0∧∃ cs,hp ((ptrs l).getD k 0)=some (false,cs)∧bs.getD k []=eW false cs)→(ptrs l).length=bs.length→∀ i,i < l.length →
  Rd F (G0 (kR G hp ids) (fH G hp hs ids 0)) (fun _=>none) (vals.getD i undef) (nth (kD l p) i .dead)
 | [],_,_,_,_,_,_,_,i,hi=>by simp at hi
 | d::l,vals,bs,p,h,hlen,hids,hbl,i,hi=>by
  have h0:=h 0 (by simp)
  simp only [nth] at h0
  obtain ⟨v0,vr,hv⟩:∃ (v0:Value) (vr:List Value),∀ i,vals.getD i undef=(v0::vr).getD i undef:=by
   cases vals with
   | nil=>exact ⟨undef,[],fun i=>by cases i <;> simp⟩
   | cons x y=>exact ⟨x,y,fun _=>rfl⟩
  simp only [hv] at h h0 ⊢
  simp only [List.getD_cons_zero] at h0
  have h':∀ i,i < l.length→Rd F G tk (vr.getD i undef) (nth l i .dead):=fun i hi=>by
   have:=h (i+1) (by simpa using hi)
   simpa [nth] using this
  by_cases hp1:∃ id off,d=.ptr id off
  ·obtain ⟨id,off,rfl⟩:=hp1
   simp only [kD,ptrs] at hids hbl ⊢
   cases bs with
   | nil=>simp at hbl
   | cons b bs =>
    have hk0:=hids 0 (by simp)
    obtain ⟨e1,e2,cs,e3,e4⟩:=hk0
    simp only [Nat.add_zero,List.getD_cons_zero] at e1 e2 e3 e4
    simp only [l7,List.headD_cons,List.tail_cons] at hlen
    have hb:bN b=false:=by
     cases hb:bN b with
     | false=>rfl
     | true=>rw [hb] at hlen; exact hlen.elim
    rw [hb] at hlen
    have ha:bN cs=false:=by
     rcases cO false cs with ⟨_,_,_,_,rfl,h8⟩ | ⟨h7,h8⟩
     ·rw [e4,h8] at hb
      cases hb
     ·exact h7
    cases i with
    | zero =>
     have:=h0.ptr_inv
     subst this
     simp only [nth,List.getD_cons_zero]
     have:(Value.pointer (some ⟨G.β id,off,none⟩))=.pointer (some ⟨(G0 (kR G hp ids) (fH G hp hs ids 0)).β p,off,none⟩):=by
      simp only [G0]
      rw [lQ _ _ _ _ e1,e2,i7 e3 ha]
     rw [this]
     exact .any (.cell (.ptr _ _))
    | succ i =>
     have:=qL (hs:=hs) l vr bs (p+1) h' hlen (fun k hk=>by
      have:=hids (k+1) (by simpa using hk)
      rw [show p+1+k=p+(k+1) from by omega]
      simpa using this) (by simpa using hbl) i (by simpa using hi)
     simpa [nth] using this
  ·by_cases hp2:∃ id z n,d=.msl id z n
   ·obtain ⟨id,z,n,rfl⟩:=hp2
    simp only [kD,ptrs] at hids hbl ⊢
    cases bs with
    | nil=>simp at hbl
    | cons b bs =>
     have hk0:=hids 0 (by simp)
     obtain ⟨e1,e2,cs,e3,e4⟩:=hk0
     simp only [Nat.add_zero,List.getD_cons_zero] at e1 e2 e3 e4
     simp only [l7,List.headD_cons,List.tail_cons] at hlen
     cases hm:q8 b with
     | none=>rw [hm] at hlen; exact hlen.elim
     | some m1 =>
     rw [hm] at hlen
     obtain ⟨w1,z1,g1,hb⟩:=aAN hm
     subst hb
     obtain ⟨hn,hlen⟩:=hlen
     subst hn
     obtain ⟨fw,g2,rfl⟩:∃ fw g2,cs=[.dead,.arr fw z1 n g2]:=by
      rcases cO false cs with ⟨fw,_,_,g2,rfl,h8⟩ | ⟨h7,h8⟩
      ·rw [h8] at e4
       cases e4
       exact ⟨fw,_,rfl⟩
      ·rw [h8] at e4
       have e5:=aV cs 1
       rw [← e4] at e5
       generalize nth cs 1 D.dead=d at e5
       cases d <;> simp [nth,D.pure1] at e5
     cases i with
     | zero =>
      obtain ⟨a,c,rfl,h2,h3,h4⟩:=h0.msl_inv
      simp only [nth,List.getD_cons_zero]
      refine .msl p z n a c ?_ h3 h4
      show q6 G hp ids p n=_
      rw [lK e1 (by rw [e2]; exact e3),if_pos rfl,e2]
      exact h2
     | succ i =>
      have:=qL (hs:=hs) l vr bs (p+1) h' hlen (fun k hk=>by
       have:=hids (k+1) (by simpa using hk)
       rw [show p+1+k=p+(k+1) from by omega]
       simpa using this) (by simpa using hbl) i (by simpa using hi)
      simpa [nth] using this
   ·have hp':∀ i o,d≠.ptr i o:=fun i o e=>hp1 ⟨i,o,e⟩
    have hp2':∀ i z n,d≠.msl i z n:=fun i z n e=>hp2 ⟨i,z,n,e⟩
    have e1:kD (d::l) p=d.pure::kD l p:=by cases d <;> first | rfl | exact absurd rfl (hp' _ _) | exact absurd rfl (hp2' _ _ _)
    have e2:ptrs (d::l)=ptrs l:=by cases d <;> first | rfl | exact absurd rfl (hp' _ _) | exact absurd rfl (hp2' _ _ _)
    have e3:l7 (d::l) bs True=l7 l bs True:=by cases d <;> first | rfl | exact absurd rfl (hp' _ _) | exact absurd rfl (hp2' _ _ _)
    rw [e1]
    rw [e2] at hids hbl
    rw [e3] at hlen
    cases i with
    | zero =>
     simp only [nth,List.getD_cons_zero]
     exact h0.pured rfl hp'
    | succ i =>
     have:=qL (hs:=hs) l vr bs p h' hlen hids hbl i (by simpa using hi)
     simpa [nth] using this

theorem yE (d:D) (hp:∀ i o,d≠.ptr i o):d.pure.names lo hi=false:=by
 cases d with
 | agg l=>exact cX l
 | ptr i o=>exact absurd rfl (hp i o)
 | _=>rfl

theorem jE (h:Nat):∀ (l:List D) (j0 i:Nat),i < l.length→(nth (kD l j0) i .dead).names (j0+(ptrs l).length) h=false
 | [],_,i,hi=>by simp at hi
 | d::l,j0,i,hi=>by
  by_cases hp:∃ id off,d=.ptr id off
  ·obtain ⟨id,off,rfl⟩:=hp
   simp only [kD,ptrs,List.length_cons]
   cases i with
   | zero=>exact a6 (by omega)
   | succ i =>
    have:=jE h l (j0+1) i (by simpa using hi)
    rw [show j0+((ptrs l).length+1)=j0+1+(ptrs l).length from by omega]
    exact this
  ·by_cases hp2:∃ id z n,d=.msl id z n
   ·obtain ⟨id,z,n,rfl⟩:=hp2
    simp only [kD,ptrs,List.length_cons]
    cases i with
    | zero=>exact a6 (by omega)
    | succ i =>
     have:=jE h l (j0+1) i (by simpa using hi)
     rw [show j0+((ptrs l).length+1)=j0+1+(ptrs l).length from by omega]
     exact this
   ·have hp':∀ i o,d≠.ptr i o:=fun i o e=>hp ⟨i,o,e⟩
    have hp2':∀ i z n,d≠.msl i z n:=fun i z n e=>hp2 ⟨i,z,n,e⟩
    have e1:kD (d::l) j0=d.pure::kD l j0:=by cases d <;> first | rfl | exact absurd rfl (hp' _ _) | exact absurd rfl (hp2' _ _ _)
    have e2:ptrs (d::l)=ptrs l:=by cases d <;> first | rfl | exact absurd rfl (hp' _ _) | exact absurd rfl (hp2' _ _ _)
    rw [e1,e2]
    cases i with
    | zero=>exact yE d hp'
    | succ i=>exact jE h l j0 i (by simpa using hi)

theorem yD (r:Rel F B np w0 ext σ0 G s a w) {vs:List D} {vals:Array Value} (hsz:vals.size=vs.length) (hv:∀ i,i < vs.length→Rd F G s.tk (vals.getD i undef) (nth vs i .dead)) {bs:List (List D)} (hb:cN s.hp (ptrs vs)=some bs)
  (hd:cY (ptrs vs)=true) (hlen:l7 vs bs True):CPre F (kR G s.hp (ptrs vs)) w (fH G s.hp w.heap.size (ptrs vs) 0) vals (kD vs 0) bs:=by
 have m:=r.mem
 obtain ⟨hl,hbs⟩:=d6 hb
 have hget:∀ k,k < (ptrs vs).length→(fH G s.hp w.heap.size (ptrs vs) 0).getD k 0=fE G s.hp w.heap.size ((ptrs vs).getD k 0) k:=fun k hk=>by rw [lQ _ _ _ _ hk,Nat.zero_add]
 refine ⟨m.stab,by rw [iG]; exact hsz,fun j hj=>?_,fun j hj h=>?_,by rw [iP]; exact hl,?_,fun k hk=>?_⟩
 ·rw [iG] at hj
  have:=qL (F:=F) (G:=G) (tk:=s.tk) (hp:=s.hp) (ids:=ptrs vs) (hs:=w.heap.size) vs vals.toList bs 0 (fun i hi=>by rw [← bA]; exact hv i hi) hlen (fun k hk=>by
   obtain ⟨cs,h1,h2,_⟩:=hbs k hk
   rw [Nat.zero_add]
   exact ⟨hk,rfl,cs,h1,h2⟩) hl j hj
  rw [bA]
  exact this
 ·rw [iG] at hj
  have:=jE h vs 0 j hj
  rw [Nat.zero_add,hl] at this
  exact this
 ·have hnd:=kG hd
  refine List.pairwise_iff_getElem.2 fun i j hi hj hij hxy=>?_
  have hi':i < (ptrs vs).length:=by rw [iP] at hi; exact hi
  have hj':j < (ptrs vs).length:=by rw [iP] at hj; exact hj
  have e1:fE G s.hp w.heap.size ((ptrs vs).getD i 0) i=fE G s.hp w.heap.size ((ptrs vs).getD j 0) j:=by
   rw [← hget i hi',← hget j hj']
   simpa [hi,hj] using hxy
  rcases vM m hb hi' with h1 | h1 <;> rcases vM m hb hj' with h2 | h2
  ·rw [e1] at h1
   have:=m.own1 _ _ _ h1 h2
   simp only [Sum.inl.injEq] at this
   rw [List.getD_eq_getElem?_getD,List.getD_eq_getElem?_getD] at this
   simp only [hi',hj',List.getElem?_eq_getElem,Option.getD_some] at this
   exact absurd this (List.pairwise_iff_getElem.1 hnd i j hi' hj' hij)
  ·have:=m.own_lt h1
   omega
  ·have:=m.own_lt h2
   omega
  ·omega
 ·rw [← hl] at hk
  obtain ⟨cs,h1,h2,h3⟩:=hbs k hk
  rw [h2]
  cases ha:bN cs with
  | true =>
   obtain ⟨fw,z,n,g,rfl⟩:=cK ha
   obtain ⟨a1,c,h4,h5⟩:=m.rows _ fw z n g h1
   refine .inl ⟨z,n,g,rfl,a1,c,?_,h4.le,fun q hq=>?_,fun hc=>?_⟩
   ·show q6 G s.hp (ptrs vs) k n=_
    rw [lK hk h1,if_pos rfl]
    exact h4.at_
   ·show q6 G s.hp (ptrs vs) k q=none
    rw [lK hk h1,if_neg hq]
   ·obtain ⟨b,rfl⟩:=h4.blk hc
    obtain ⟨h6,o,h7,h8⟩:=h5 b rfl hc
    rw [hget k hk,pG h1 h4.at_ hc]
    exact ⟨rfl,h6,o,h7,h8⟩
  | false =>
   rw [mW ha] at h3 ⊢
   have h30:aG (aI cs)=true:=by
    unfold okB at h3
    cases hh:bN (aI cs) with
    | false=>rw [hh,Bool.or_false] at h3; exact h3
    | true =>
     obtain ⟨w1,z1,n1,g1,e1⟩:=cK hh
     have e2:=aV cs 1
     rw [e1] at e2
     generalize nth cs 1 D.dead=d at e2
     cases d <;> simp [nth,D.pure1] at e2
   obtain ⟨o1,h4,hh1,h7⟩:=m.vars _ cs h1 ha
   obtain ⟨c,e,rfl,h5,h6⟩:=hh1.cells (lE h30)
   have e1:(fH G s.hp w.heap.size (ptrs vs) 0).getD k 0=G.β ((ptrs vs).getD k 0):=by rw [hget k hk,i7 h1 ha]
   rw [e1]
   refine .inr ⟨h30,c,e,h4,by rw [aK]; exact h5,fun j hj=>?_,h7⟩
   rw [aK] at hj
   rw [aV]
   exact ⟨(h6 j hj).pure1,(bG _).symm⟩

theorem nP:∀ {ids:List Nat} {bs:List (List D)} {x:Nat×Bool×List D},x∈bD hp ids bs→x.1∈ids∧∃ f b,x.2.2=eW f b
 | [],_,_,h=>by simp [bD] at h
 | _::_,[],_,h=>by simp [bD] at h
 | i::ids,b::bs,x,h=>by
  simp only [bD,List.mem_cons] at h
  rcases h with rfl | h
  ·exact ⟨by simp,_,b,rfl⟩
  ·obtain ⟨h1,h2⟩:=nP h
   exact ⟨List.mem_cons_of_mem _ h1,h2⟩

theorem jH:∀ (l:List D) (i:Nat) (x:Nat×Nat×Nat),x∈aR l i→x.1 < i+l.length
 | [],_,_,h=>by simp [aR] at h
 | d::l,i,x,h=>by
  simp only [List.length_cons]
  have other:x∈aR l (i+1)→x.1 < i+(l.length+1):=fun h=>by have:=jH l (i+1) x h; omega
  cases d with
  | slice t z n g =>
   cases t with
   | own j =>
    simp only [aR,List.mem_cons] at h
    rcases h with rfl | h
    ·simp only; omega
    ·exact other h
   | _=>exact other h
  | _=>exact other h

theorem aCD (d:D) {i:Nat} (h:¬(lo≤i∧i < hi)):(d.res.own i).names lo hi=false∧(d.res.own i).names1 lo hi=false:=by
 cases d with
 | slice t z n g=>cases t <;> first | exact ⟨a6 h,a6 h⟩ | exact ⟨rfl,rfl⟩
 | agg c=>exact ⟨cX c,rfl⟩
 | _=>exact ⟨rfl,rfl⟩

theorem rJ (h:Clean lo hi s) {id:Nat} {ids:List Nat} {bs bs':List (List D)} (hb:cN s.hp ids=some bs) {rs:List D} (h4:rs.length≤4) (hid:id+4≤lo∨hi≤id) (dst:Option Nat) :
  Clean lo hi (s.next dst (jF (bW (aU rs) id)) ⟨bD s.hp ids bs',aR (aU rs) id⟩):=by
 have hnth:∀ j,j < rs.length→(nth (bW (aU rs) id) j .dead).names lo hi=false∧(nth (bW (aU rs) id) j .dead).names1 lo hi=false:=fun j hj=>by
  rw [lS,fX]
  exact aCD _ (by omega)
 have hlen:(bW (aU rs) id).length=rs.length:=by rw [dN,b9]
 refine h.after ?_ (fun x hx=>?_) (fun x hx=>?_) dst
 ·generalize bW (aU rs) id=l at hnth hlen
  match l,hlen with
  | [],_=>rfl
  | [d],hl=>exact (hnth 0 (by rw [← hl]; simp)).1
  | d::d'::l,hl =>
   show names lo hi (d::d'::l)=false
   exact dL fun j hj=>(hnth j (by rw [← hl]; exact hj)).2
 ·obtain ⟨h1,f,c,h3⟩:=nP hx
  rw [h3]
  obtain ⟨_,hbs⟩:=d6 hb
  obtain ⟨k,hk,h5⟩:=List.mem_iff_getElem.1 h1
  obtain ⟨cs,h6,_⟩:=hbs k hk
  have:ids.getD k 0=x.1:=by simp [hk,h5]
  rw [this] at h6
  exact ⟨(h.hp _ _ _ h6).1,kJ f c⟩
 ·have h1:=fM _ _ _ hx
  have h2:=jH _ _ _ hx
  rw [b9] at h2
  omega

theorem kQ (h:Clean lo hi s) {id:Nat} {ids:List Nat} {bs bs':List (List D)} (hb:cN s.hp ids=some bs) {l:List D} (hid:id+4≤lo∨hi≤id) (dst:Option Nat) :
  Clean lo hi (s.next dst (.ptr id 0) ⟨bD s.hp ids bs'++[(id,false,aI l)],[]⟩):=by
 refine h.after (v:=.ptr id 0) (show (Nat.ble lo id&&Nat.blt id hi)=false from a6 (by omega)) (fun x hx=>?_) (fun x hx=>by simp at hx) dst
 rcases List.mem_append.1 hx with hx | hx
 ·obtain ⟨h1,f,c,h3⟩:=nP hx
  rw [h3]
  obtain ⟨_,hbs⟩:=d6 hb
  obtain ⟨k,hk,h5⟩:=List.mem_iff_getElem.1 h1
  obtain ⟨cs,h6,_⟩:=hbs k hk
  have:ids.getD k 0=x.1:=by simp [hk,h5]
  rw [this] at h6
  exact ⟨(h.hp _ _ _ h6).1,kJ f c⟩
 ·simp only [List.mem_singleton] at hx
  subst hx
  exact ⟨by simp only; omega,cX l⟩

theorem fW {id:Nat} {ids:List Nat} {rs:List D} {bs bs':List (List D)} {v:D} {u:Upd} (h:(fT id ids hp bs rs bs').holds v u):nY bs bs'=true ∧
  ((rs.length ≤ 4 ∧ v = jF (bW (aU rs) id) ∧ u = ⟨bD hp ids bs',aR (aU rs) id⟩) ∨
   ∃ l,rs=[.newp l]∧aG (aI l)=true∧v=.ptr id 0∧u=⟨bD hp ids bs'++[(id,false,aI l)],[]⟩):=by
 unfold fT at h
 split at h
 ·rename_i l
  obtain ⟨hb,rfl,rfl⟩:=aM h
  simp only [Bool.and_eq_true] at hb
  exact ⟨hb.1,.inr ⟨l,rfl,hb.2,rfl,rfl⟩⟩
 ·obtain ⟨hb,rfl,rfl⟩:=aM h
  simp only [Bool.and_eq_true] at hb
  exact ⟨hb.2,.inl ⟨Nat.le_of_ble_eq_true hb.1.2,rfl,rfl⟩⟩

abbrev aDX (F:Nat→FuncId) (B np:Nat) (w0:World) (ext:List Nat) (σ0:Og) (s:St) (a:Act) (dst:Option Nat) (id n:Nat) (k:D→Upd→Prop) (next:Act→World→Prop):Prop :=
 ∀ v u v' G' w',k v u→Rel F B np w0 ext σ0 G' (s.next dst v u) (a.put dst v') w'→(∀ lo hi,Clean lo hi s→(id+n≤lo∨hi≤id)→Clean lo hi (s.next dst v u))→next (a.put dst v') w'

theorem aBG {C:aL} {f:FuncId} (hC:COk P F f C) (r:Rel F B np w0 ext σ0 G s a w) {vs:List D} {vals:Array Value} (hsz:vals.size=vs.length) (hv:∀ i,i < vs.length→Rd F G s.tk (vals.getD i undef) (nth vs i .dead))
  {id:Nat} (hnp:np≤id) (hcl:Clean id (id+4) s) {k:D→Upd→Prop} (h:eK C id vs s.hp k) {o:Oper} (hop:(execOp a.eval o).run P w=(callFunc f vals).run P w) {next:Act→World→Prop} {Q:Exit→Act→World→Prop}
  (hn:aDX F B np w0 ext σ0 s a o.dst id 4 k next):o.wp P a w next Q:=by
 unfold Oper.wp
 rw [hop]
 unfold eK at h
 cases hb:cN s.hp (ptrs vs) with
 | none=>rw [hb] at h; exact h.elim
 | some bs =>
  rw [hb] at h
  simp only at h
  cases hd:cY (ptrs vs) with
  | false=>rw [hd] at h; exact h.elim
  | true =>
   rw [hd] at h
   obtain ⟨hlen,h⟩:=(kZ vs bs _).1 h
   have key:∀ (w':World) (rv:Array Value) (rs:List D) (bs':List (List D)) (σ':Sg),(fT id (ptrs vs) s.hp bs rs bs').then k →
     CPost (kR G s.hp (ptrs vs)) w (fH G s.hp w.heap.size (ptrs vs) 0) w' σ' rs bs' rv→next (a.put o.dst (fA rv)) w':=by
    intro w' rv rs bs' σ' hK post
    obtain ⟨v,u,hh,hK⟩:=cJ hK
    obtain ⟨hl,⟨h4,rfl,rfl⟩ | ⟨l,rfl,hls,rfl,rfl⟩⟩:=fW hh
    ·obtain ⟨G',r'⟩:=aA9 r hnp hcl hb hd post hl h4 o.dst
     exact hn _ _ _ G' w' hK r' fun lo hi hc hid=>rJ hc hb h4 hid o.dst
    ·obtain ⟨G',r'⟩:=sA r hnp hcl hb hd post hl hls o.dst
     exact hn _ _ _ G' w' hK r' fun lo hi hc hid=>kQ hc hb hid o.dst
   rcases hC with hC | hC
   ·rw [hC.enter,Oper.upon_enter]
    refine (hC.calls _ w _ vals _ bs _ (yD r hsz hv hb hd hlen) h).mono fun e w' hh=>?_
    obtain ⟨rv,rs,bs',σ',rfl,hK,post⟩:=hh
    exact key w' rv rs bs' σ' hK post
   ·obtain ⟨w',rv,rs,bs',σ',hr,hK,post⟩:=hC.calls _ w _ vals _ bs _ (yD r hsz hv hb hd hlen) h
    rw [hr,Oper.upon_value]
    exact key w' rv rs bs' σ' hK post

theorem Re.rd {v:Value} {d:D} (h:Re G.σ v d):Rd F G tk v d:=by
 cases h with
 | pure h1 h2=>rw [h2]; exact .any (.cell (.pure (h2 ▸ h1) (b7 _ _)))
 | eptr b o l h1=>exact .any (.cell (.eptr b o l h1))

theorem Rd.fn_inv {v:Value} {f:Nat} {l:List D} (h:Rd F G tk v (.fn f l)):∃ cap:Array Value,v=.func (.func (F f)) #[] cap∧cap.size=l.length∧∀ j,j < l.length→Re G.σ (cap.getD j undef) (nth l j .dead):=by
 cases h with | any h=>cases h with | cell h=>cases h with | pure h _=>cases h | fn _ cap _ h1 h2=>exact ⟨cap,rfl,h1,h2⟩

theorem i3 (o:AOp) (id:Nat) (args:List D) (k:D→Upd→Prop):step E o id hp tk args k=match o with
 | .call p f=>(match ag E f with
  | some C=>bif p then eK C id args hp k else Br (oJ args) (eK C id args hp k) False
  | none=>False)
 | .callv p=>(match args with
  | .fn f cap::r=>(match ag E f with
   | some C=>bif p then eK C id (r++cap) hp k else Br (oJ (r++cap)) (eK C id (r++cap) hp k) False
   | none=>False)
  | _=>False)
 | o=>(aQ o id hp tk args).then k:=by
 cases o <;> rfl

theorem aFJ (hE:EnvOk P F E) (hft:∀ f j,ag ft f=some j→F j=f) (r:Rel F B np w0 ext σ0 G s a w) {o:Oper} {ao:AOp} {xs:List AX} (ht:aA0 P ft np o=some (ao,xs)) (hok:i9 ao=true) (hax:xs.all lC=true) {id:Nat} (hnp:np≤id)
  (hcl:Clean id (id+bE ao) s) {k:D→Upd→Prop} (h:step E ao id s.hp s.tk (evs s.fr xs) k) {next:Act→World→Prop} {Q:Exit→Act→World→Prop} (hn:aDX F B np w0 ext σ0 s a o.dst id (bE ao) k next):o.wp P a w next Q:=by
 have hnoc:c6 ao=false→o.wp P a w next Q:=by
  intro hnc
  have h':(aQ ao id s.hp s.tk (evs s.fr xs)).then k:=by
   rw [i3] at h
   cases ao <;> first | exact h | cases hnc
  obtain ⟨v,u,hh,hk⟩:=cJ h'
  obtain ⟨w',r',v',G',h1,h2,h3⟩:=aGS hft r ht hnc hnp hcl hh o.dst
  have:=hn v u v' G' w' hk h3 fun lo hi hc hid=>aD4 r hc hok hax hid hh o.dst
  unfold Oper.wp
  rw [h1]
  rcases h2 with rfl | ⟨rfl,rfl⟩
  ·exact this
  ·exact this
 rcases rM ht with ⟨c,hc,hcall⟩ | ⟨_,hnc⟩ | ⟨rfl,_⟩
 ·obtain ⟨callee,args,ts⟩:=c
  unfold oX at hcall
  split at hcall
  ·rename_i f hf
   simp only at hf
   subst hf
   split at hcall
   ·rename_i j as hj has
    cases hcall
    obtain ⟨h1,h2,h3⟩:=pF hft r has
    have:=hft f j hj
    subst this
    have hrun:(execOp a.eval o).run P w=(callFunc (F j) (args.map a.eval)).run P w:=by
     simp [execOp,hc,resolve,Act.eval,Deferred.ofValue,invoke]
    have hsz:(args.map a.eval).size=(evs s.fr xs).length:=by rw [h2,← h1]; simp
    have hv:∀ i,i < (evs s.fr xs).length→Rd F G s.tk ((args.map a.eval).getD i undef) (nth (evs s.fr xs) i .dead):=fun i hi=>by
     have:=h3 i (by omega)
     rw [bA,Array.toList_map]
     exact this
    rw [i3] at h
    simp only at h
    cases hE':ag E j with
    | none=>rw [hE'] at h; exact h.elim
    | some C =>
     rw [hE'] at h
     simp only at h
     have hk:eK C id (evs s.fr xs) s.hp k:=by
      cases hp:xP P (Nat.ble 1000000 np) (F j) ts.toList with
      | true=>rw [hp] at h; exact h
      | false =>
       rw [hp] at h
       simp only [cond_false] at h
       cases hnp:oJ (evs s.fr xs) with
       | true=>rw [hnp] at h; exact h
       | false=>rw [hnp] at h; exact h.elim
     exact aBG (hE j C hE') r hsz hv hnp hcl hk hrun hn
   ·cases hcall
  ·rename_i t ht'
   simp only at ht'
   subst ht'
   rw [Option.map_eq_some_iff] at hcall
   obtain ⟨as,has,hcall⟩:=hcall
   cases hcall
   obtain ⟨h1,h2,h3⟩:=zS hft r has
   rw [i3] at h
   simp only [evs] at h
   split at h
   ·rename_i f cap rest hargs
    obtain ⟨hf,hr⟩:=List.cons.inj hargs
    subst hr
    have hfn:=aY (a:=a) (ft:=ft) hft r (x:=.tmp t) (ax:=.t t) rfl
    rw [hf] at hfn
    obtain ⟨cv,e1,e2,e3⟩:=hfn.fn_inv
    have hrun:(execOp a.eval o).run P w=(callFunc (F f) (args.map a.eval++cv)).run P w:=by
     simp [execOp,hc,resolve,e1,Deferred.ofValue,invoke]
    have hsz0:(args.map a.eval).size=(evs s.fr as).length:=by rw [h2,← h1]; simp
    have hsz:(args.map a.eval++cv).size=(evs s.fr as++cap).length:=by
     rw [Array.size_append,List.length_append,hsz0,e2]
    have hv:∀ i,i < (evs s.fr as++cap).length→Rd F G s.tk ((args.map a.eval++cv).getD i undef) (nth (evs s.fr as++cap) i .dead):=fun i hi=>by
     rw [hT]
     rw [List.length_append] at hi
     split
     ·rename_i hlt
      have:=h3 i (by omega)
      have e4:(args.map a.eval++cv).getD i undef=(args.map a.eval).getD i undef:=by
       simp only [Array.getD_eq_getD_getElem?]
       rw [Array.getElem?_append_left (by omega)]
      rw [e4,bA,Array.toList_map]
      exact this
     ·rename_i hge
      have e4:(args.map a.eval++cv).getD i undef=cv.getD (i - (evs s.fr as).length) undef:=by
       simp only [Array.getD_eq_getD_getElem?]
       rw [Array.getElem?_append_right (by omega),hsz0]
      rw [e4]
      exact (e3 _ (by omega)).rd
    cases hE':ag E f with
    | none=>rw [hE'] at h; exact h.elim
    | some C =>
     rw [hE'] at h
     simp only at h
     have hk:eK C id (evs s.fr as++cap) s.hp k:=by
      cases hp:vZ P (Nat.ble 1000000 np) ts.toList with
      | true=>rw [hp] at h; exact h
      | false =>
       rw [hp] at h
       simp only [cond_false] at h
       cases hnp:oJ (evs s.fr as++cap) with
       | true=>rw [hnp] at h; exact h
       | false=>rw [hnp] at h; exact h.elim
     exact aBG (hE f C hE') r hsz hv hnp hcl hk hrun hn
   ·exact h.elim
  ·rename_i b hb
   refine hnoc ?_
   unfold lP at hcall
   split at hcall
   ·unfold aBK at hcall
    split at hcall <;> first | (cases hcall; rfl) | cases hcall
   ·unfold oS at hcall
    split at hcall
    ·split at hcall
     ·split at hcall
      ·cases hcall; rfl
      ·cases hcall
     ·cases hcall
    ·cases hcall
   ·rw [Option.map_eq_some_iff] at hcall
    obtain ⟨_,_,hcall⟩:=hcall
    cases hcall
    rfl
   ·rw [Option.map_eq_some_iff] at hcall
    obtain ⟨_,_,hcall⟩:=hcall
    cases hcall
    rfl
   ·cases hcall
  ·cases hcall
 ·exact hnoc hnc
 ·exact hnoc rfl

end
end Go.Abs

/- What holds of a state without any memory: numbers,and that cells are cells. -/
namespace Go.Abs
open Go

def FlatS:D→Prop
 | .agg l=>∀ e∈l,Cell e
 | .tup l=>∀ e∈l,match e with
  | .agg c=>∀ x∈c,Cell x∧x=x.pure1
  | .tup _=>False
  | _=>True
 | _=>True

structure Tidy (lo hi:Nat) (s:St):Prop where
 fr:∀ d∈s.fr,d.names lo hi=false∧FlatS d
 hp:∀ i f cs,s.hp i=some (f,cs)→¬(lo≤i∧i < hi)∧names lo hi cs=false∧∀ e∈cs,Cell e
 tk:∀ i e,s.tk i=some e→¬(lo≤i∧i < hi)

section
variable {P:Program} {F:Nat→FuncId} {B np:Nat} {w0 w w':World} {ext:List Nat} {σ0:Og} {G G':Gh} {s:St} {a:Act} {ft:FT} {hp:Nat→Option (Bool×List D)} {tk:Nat→Option (Nat×Nat)} {lo hi id:Nat} {E:Env}

theorem FlatS.flatD {d:D} (h:FlatS d):wY lo hi d:=by
 cases d with
 | agg l=>exact h
 | tup l =>
  intro e he
  have:=h e he
  cases e with
  | agg c=>exact aS.2 fun x hx=>by rw [(this x hx).2]; exact d7 _
  | tup c=>exact this
  | _=>trivial
 | _=>trivial

theorem Cell.flat {d:D} (h:Cell d):FlatS d:=by cases d <;> first | trivial | exact h.elim

theorem Rd.flatS {v:Value} {d:D} (h:Rd F G tk v d):FlatS d:=by
 cases h with
 | any h =>
  cases h with
  | cell h=>exact h.cell.flat
  | agg cs l h1 h2 =>
   intro e he
   obtain ⟨j,hj,rfl⟩:=List.mem_iff_getElem.1 he
   have:=(h2 j hj).cell
   rw [cR l _ hj] at this
   exact this
 | tup vs l h1 h2 =>
  intro e he
  obtain ⟨j,hj,rfl⟩:=List.mem_iff_getElem.1 he
  have:=h2 j hj
  rw [cR l _ hj] at this
  generalize l[j]=e at this
  generalize vs.getD j undef=v at this
  cases this with
  | cell h =>
   have:=h.cell
   cases e <;> first | trivial | exact this.elim
  | agg cs c h3 h4 =>
   intro x hx
   obtain ⟨q,hq,rfl⟩:=List.mem_iff_getElem.1 hx
   have:=h4 q hq
   rw [cR c _ hq] at this
   exact ⟨this.1.cell,this.2⟩
 | mref id=>trivial
 | msl _ _ _ _ _ _ _ _=>trivial
 | rptr _ _ _ _ _ _ _ _=>trivial

theorem Rel.tidy (r:Rel F B np w0 ext σ0 G s a w) (h:Clean lo hi s):Tidy lo hi s:=by
 refine ⟨fun d hd=>?_,aGD r h,h.tk⟩
 obtain ⟨j,hj,rfl⟩:=List.mem_iff_getElem.1 hd
 have h1:=h.fr j hj
 have h2:=(r.slots j hj).flatS
 rw [cR s.fr _ hj] at h1 h2
 exact ⟨h1,h2⟩

theorem Tidy.clean (h:Tidy lo hi s):Clean lo hi s :=
 ⟨fun i hi'=>by rw [cR s.fr _ hi']; exact (h.fr _ (List.getElem_mem hi')).1,fun i f cs hx=>⟨(h.hp i f cs hx).1,(h.hp i f cs hx).2.1⟩,h.tk⟩

theorem m6 {dst:Option Nat} {v:D} {fr:List D} {d:D} (h:d∈eG dst v fr):d=v∨d∈fr:=by
 cases dst with
 | none=>exact .inr h
 | some i=>exact uW h

theorem Tidy.after (h:Tidy lo hi s) {v:D} {u:Upd} (hv:v.names lo hi=false∧FlatS v) (hh:∀ x∈u.h,¬(lo≤x.1∧x.1 < hi)∧names lo hi x.2.2=false∧∀ e∈x.2.2,Cell e) (ht:∀ x∈u.t,¬(lo≤x.1∧x.1 < hi)) (dst:Option Nat) :
  Tidy lo hi (s.next dst v u):=by
 refine ⟨fun d hd=>?_,fun i f cs hx=>?_,fun i e hx=>?_⟩
 ·rcases m6 hd with rfl | hd
  ·exact hv
  ·exact h.fr d hd
 ·rcases k4 hx with h1 | h1
  ·exact h.hp i f cs h1
  ·exact hh _ h1
 ·rcases rX hx with h1 | h1
  ·exact h.tk i e h1
  ·exact ht _ h1

theorem rU (h:Tidy lo hi s) {xs:List AX} (hx:xs.all lC=true):∀ d∈evs s.fr xs,d.names lo hi=false∧FlatS d:=by
 intro d hd
 obtain ⟨x,hx',rfl⟩:=wS hd
 have hx:=List.all_eq_true.1 hx x hx'
 cases x with
 | t i =>
  simp only [AX.ev]
  rcases oW (l:=s.fr) (j:=i) with h1 | h1
  ·exact h.fr _ h1
  ·rw [h1]; exact ⟨rfl,trivial⟩
 | c d =>
  refine ⟨(mQ (lo:=lo) (hi:=hi) hx).1,?_⟩
  have h1:=(mQ (lo:=lo) (hi:=hi) hx).2
  cases d with
  | agg l=>exact h1
  | tup l=>cases hx
  | _=>trivial

theorem dP (l:List D):∀ e∈aI l,Cell e:=by
 intro e he
 obtain ⟨x,_,rfl⟩:=fJ he
 exact d5 x

theorem aE3 {d:D} (h:Cell d):Cell d.ro1:=by
 cases d with
 | slice t z n g=>cases t <;> trivial
 | _=>first | trivial | exact h.elim

theorem aDY {l:List D} (h:∀ e∈l,Cell e):∀ e∈ros l,Cell e:=by
 intro e he
 obtain ⟨x,hx,rfl⟩:=aB9 he
 exact aE3 (h x hx)

theorem eJ {g:Bool} {n:Nat} {l:List D} {v:D} {u:Upd} (h:(bP g n l).holds v u) (h2:∀ e∈l,Cell e):FlatS v:=by
 unfold bP at h
 cases hb:Nat.ble n l.length with
 | false=>rw [hb] at h; exact (aB h).elim
 | true =>
  rw [hb] at h
  obtain ⟨rfl,rfl⟩:=aD h
  cases g with
  | true=>exact fun e he=>h2 e (List.mem_of_mem_take he)
  | false =>
   simp only [mkv,cond_false]
   rcases oW (l:=l.take n) (j:=0) with h4 | h4
   ·exact (h2 _ (List.mem_of_mem_take h4)).flat
   ·rw [h4]; trivial

theorem tY:∀ {qs:List (Nat×Nat)} {xs cells l:List D},fill cells qs xs=some l→(∀ e∈cells,Cell e)→∀ e∈l,Cell e
 | [],[],cells,l,h,hc=>by cases h; exact hc
 | [],_::_,_,_,h,_=>by simp [fill] at h
 | _::_,[],_,_,h,_=>by simp [fill] at h
 | (off,size)::qs,x::xs,cells,l,h,hc=>by
  simp only [fill] at h
  cases hb:(aG x.cells&&Nat.beq x.cells.length size&&Nat.ble (off+size) cells.length) with
  | false=>rw [hb] at h; cases h
  | true =>
   rw [hb] at h
   simp only [Bool.and_eq_true] at hb
   refine tY h fun e he=>?_
   rcases jU he with he | he
   ·exact hc e he
   ·exact hQ hb.1.1 e he

theorem aBE {d:D} (h:rL d=true):Cell d:=by cases d <;> first | trivial | cases h

theorem k8:∀ (l:List D) (ds:List D) (u:List (Nat×Bool×List D)),freeze np hp l=some (ds,u)→∀ x∈u,∀ e∈x.2.2,Cell e
 | [],ds,u,h,x,hx=>by simp only [freeze,Option.some.injEq,Prod.mk.injEq] at h; rw [← h.2] at hx; simp at hx
 | d::l,ds,u,h,x,hx=>by
  have other:(match freeze np hp l with | some (ds,u)=>bif aG [d] then some (d.pure::ds,u) else none | none=>none)=some (ds,u)→∀ e∈x.2.2,Cell e:=by
   intro h
   cases hf:freeze np hp l with
   | none=>simp [hf] at h
   | some p =>
    obtain ⟨ds',u'⟩:=p
    simp only [hf] at h
    cases hs:aG [d] with
    | false=>rw [hs] at h; cases h
    | true =>
     rw [hs] at h
     cases h
     exact k8 l _ _ hf x hx
  cases d with
  | ptr i off =>
   simp only [freeze] at h
   cases hi':hp i with
   | none=>simp [hi'] at h
   | some e =>
    obtain ⟨f,cs⟩:=e
    cases hf:freeze np hp l with
    | none=>simp [hi',hf] at h
    | some p =>
     obtain ⟨ds',u'⟩:=p
     simp only [hi',hf] at h
     cases hb:((f || aG cs)&&Nat.ble np i) with
     | false=>rw [hb] at h; cases h
     | true =>
      rw [hb] at h
      cases h
      simp only [List.mem_cons] at hx
      rcases hx with rfl | hx
      ·exact dP _
      ·exact k8 l _ _ hf x hx
  | fn f c=>simp [freeze] at h
  | _=>exact other h

theorem aD5 {op:BinOp} {x y v:D} {u:Upd} (h:(bin op x y).holds v u):Cell v:=by
 unfold bin at h
 split at h
 ·rename_i k a k' b
  cases hs:lW op with
  | true =>
   rw [hs] at h
   simp only [cond_true] at h
   unfold qW at h
   split at h
   ·obtain ⟨_,rfl,rfl⟩:=aM h; trivial
   ·obtain ⟨_,rfl,rfl⟩:=aM h; trivial
   ·exact (aB h).elim
  | false =>
   rw [hs] at h
   simp only [cond_false] at h
   cases hk:iJ k k' with
   | false=>rw [hk] at h; exact (aB h).elim
   | true =>
    rw [hk] at h
    simp only [cond_true] at h
    unfold wC at h
    split at h
    all_goals first
     | exact (aB h).elim
     | (obtain ⟨rfl,rfl⟩:=aD h; trivial)
     | (obtain ⟨_,rfl,rfl⟩:=aM h; trivial)
 ·unfold wM at h
  split at h
  all_goals first
   | exact (aB h).elim
   | (obtain ⟨rfl,rfl⟩:=aD h; trivial)
   | (obtain ⟨_,rfl,rfl⟩:=aM h; trivial)
 ·exact (aB h).elim

theorem p5 {sz bytes:Nat} {t:Tag} {z n:Nat} {g:Nat→List D} {m:Nat} {k:Nat→List D} {v:D} {u:Upd} (h:(cU id sz bytes tk t z n g m k).holds v u):Cell v∧u.h=[]:=by
 unfold cU at h
 cases hb:Nat.beq z sz with
 | false=>rw [hb] at h; exact (aB h).elim
 | true =>
  rw [hb] at h
  simp only [Bool.not_true,cond_false] at h
  split at h
  ·split at h
   ·rename_i z' n' hi'
    cases hb2:Nat.beq z' sz with
    | false=>rw [hb2] at h; exact (aB h).elim
    | true =>
     rw [hb2] at h
     obtain ⟨_,rfl,rfl⟩:=a8 h
     exact ⟨trivial,rfl⟩
   ·exact (aB h).elim
  ·obtain ⟨_,rfl,rfl⟩:=a8 h
   exact ⟨trivial,rfl⟩
  ·exact (aB h).elim

theorem aD1 {o:AOp} {args:List D} {v:D} {u:Upd} (h:(aQ o id hp tk args).holds v u) (ho:i9 o=true) (ha:∀ d∈args,FlatS d) (hh:∀ i f cs,hp i=some (f,cs)→∀ e∈cs,Cell e):FlatS v∧∀ x∈u.h,∀ e∈x.2.2,Cell e:=by
 have none':∀ x∈Upd.none.h,∀ e∈x.2.2,Cell e:=fun x hx=>by simp [Upd.none] at hx
 unfold aQ at h
 split at h
 ·obtain ⟨rfl,rfl⟩:=aD h; exact ⟨ha _ (by simp),none'⟩
 ·rename_i c x y
  obtain ⟨rfl,rfl⟩:=aD h
  refine ⟨?_,none'⟩
  cases c
  ·exact ha y (by simp)
  ·exact ha x (by simp)
 ·rename_i cells
  cases hs:aG cells with
  | false=>rw [hs] at h; exact (aB h).elim
  | true =>
   rw [hs] at h
   obtain ⟨rfl,rfl⟩:=aT h
   refine ⟨trivial,fun x hx=>?_⟩
   simp only [List.mem_singleton] at hx
   subst hx
   intro e he
   obtain ⟨j,hj,rfl⟩:=List.mem_iff_getElem.1 he
   have h1:=lS cells (id+1) j
   rw [cR _ _ hj] at h1
   rw [h1]
   rw [dN] at hj
   have h2:=hQ hs _ (List.getElem_mem hj)
   rw [cR cells _ hj]
   generalize cells[j]=d at h2
   cases d with
   | slice t z n g=>cases t <;> trivial
   | _=>first | trivial | exact h2.elim
 ·rename_i x
  cases hs:aG x.cells with
  | false=>rw [hs] at h; exact (aB h).elim
  | true =>
   rw [hs] at h
   obtain ⟨rfl,rfl⟩:=aT h
   refine ⟨trivial,fun y hy=>?_⟩
   simp only [List.mem_singleton] at hy
   subst hy
   exact hQ hs
 ·split at h
  ·rename_i f cs hi'
   replace h:=(bS h).2
   have h1:=eJ h (fun e he=>hh _ _ _ hi' e (List.mem_of_mem_drop he))
   obtain ⟨_,rfl⟩:=bT (lo:=0) (hi:=0) h (aS.2 fun d _=>bI d) (fun e he=>hh _ _ _ hi' e (List.mem_of_mem_drop he))
   exact ⟨h1,none'⟩
  ·exact (aB h).elim
 ·have h1:=eJ h (dP _)
  obtain ⟨_,rfl⟩:=bT (lo:=0) (hi:=0) h (aS.2 fun d _=>bI d) (dP _)
  exact ⟨h1,none'⟩
 ·rename_i n i off x
  split at h
  ·rename_i cs hi'
   replace h:=(cQ h).2
   cases hb:(aG x.cells&&Nat.beq x.cells.length n&&Nat.ble (off+n) cs.length) with
   | false=>rw [hb] at h; exact (aB h).elim
   | true =>
    rw [hb] at h
    obtain ⟨rfl,rfl⟩:=aT h
    simp only [Bool.and_eq_true] at hb
    refine ⟨trivial,fun y hy=>?_⟩
    simp only [List.mem_singleton] at hy
    subst hy
    intro e he
    rcases jU he with he | he
    ·exact hh _ _ _ hi' e he
    ·exact hQ hb.1.1 e he
  ·exact (aB h).elim
 ·obtain ⟨rfl,rfl⟩:=aD h; exact ⟨trivial,none'⟩
 ·obtain ⟨rfl,rfl⟩:=aD h; exact ⟨trivial,none'⟩
 ·rename_i g off n l
  have h0:∀ e∈l.drop off,Cell e:=fun e he=>ha (.agg l) (by simp) e (List.mem_of_mem_drop he)
  have h1:=eJ h h0
  obtain ⟨_,rfl⟩:=bT (lo:=0) (hi:=0) h (aS.2 fun d _=>bI d) h0
  exact ⟨h1,none'⟩
 ·rename_i sz t z n g k i
  cases hb:Nat.beq z sz with
  | false=>rw [hb] at h; exact (aB h).elim
  | true =>
   rw [hb] at h
   obtain ⟨_,rfl,rfl⟩:=aM h
   exact ⟨trivial,none'⟩
 ·obtain ⟨_,rfl,rfl⟩:=aM h; exact ⟨trivial,none'⟩
 ·obtain ⟨_,rfl,rfl⟩:=aM h; exact ⟨trivial,none'⟩
 ·obtain ⟨_,rfl,rfl⟩:=aM h; exact ⟨trivial,none'⟩
 ·rename_i g sz len l k i
  have h0:∀ e∈l.drop (i.toNat * sz),Cell e:=fun e he=>ha (.agg l) (by simp) e (List.mem_of_mem_drop he)
  cases hl:bP g sz (l.drop (i.toNat * sz)) with
  | ok v' u' =>
   rw [hl] at h
   obtain ⟨_,rfl,rfl⟩:=aM h
   have hl':(bP g sz (l.drop (i.toNat * sz))).holds v u:=.inl hl
   have h1:=eJ hl' h0
   obtain ⟨_,rfl⟩:=bT (lo:=0) (hi:=0) hl' (aS.2 fun d _=>bI d) h0
   exact ⟨h1,none'⟩
  | bad=>rw [hl] at h; exact (aB h).elim
  | ask p v' u'=>rw [hl] at h; exact (aB h).elim
  | chk p v' u'=>rw [hl] at h; exact (aB h).elim
  | alt p v' u' v2 u2=>rw [hl] at h; exact (aB h).elim
 ·rename_i zero parts
  cases hf:fill zero parts args with
  | none=>rw [hf] at h; exact (aB h).elim
  | some l =>
   rw [hf] at h
   obtain ⟨rfl,rfl⟩:=aD h
   simp only [i9,List.all_eq_true] at ho
   exact ⟨aDY (tY hf fun e he=>aBE (ho e he)),none'⟩
 ·rename_i sz len zero parts
  cases hf:fill (rep len zero) parts args with
  | none=>rw [hf] at h; exact (aB h).elim
  | some l =>
   rw [hf] at h
   simp only at h
   cases hb:(Nat.beq zero.length sz&&aG l) with
   | false=>rw [hb] at h; exact (aB h).elim
   | true =>
    rw [hb] at h
    obtain ⟨rfl,rfl⟩:=aD h
    exact ⟨trivial,none'⟩
 ·rename_i sz lo' hi' mx t z n g r
  cases hb:Nat.beq z sz with
  | false=>rw [hb] at h; exact (aB h).elim
  | true =>
   rw [hb] at h
   simp only [Bool.not_true,cond_false] at h
   split at h
   ·split at h
    ·split at h
     ·obtain ⟨_,rfl,rfl⟩:=aM h
      exact ⟨trivial,none'⟩
     ·exact (aB h).elim
    ·exact (aB h).elim
   ·exact (aB h).elim
 ·split at h
  ·split at h
   ·obtain ⟨_,rfl,rfl⟩:=aM h
    exact ⟨trivial,none'⟩
   ·exact (aB h).elim
  ·exact (aB h).elim
 ·rename_i sz len np' i off
  split at h
  ·rename_i f cs hi'
   replace h:=(cQ h).2
   cases hb:(Nat.ble (off+len * sz) cs.length&&Nat.ble np' i) with
   | false=>rw [hb] at h; exact (aB h).elim
   | true =>
    rw [hb] at h
    obtain ⟨rfl,rfl⟩:=aT h
    refine ⟨trivial,fun y hy=>?_⟩
    simp only [List.mem_singleton] at hy
    subst hy
    exact dP _
  ·exact (aB h).elim
 ·rename_i sz len np' l
  cases hb:Nat.ble (len * sz) l.length with
  | false=>rw [hb] at h; exact (aB h).elim
  | true =>
   rw [hb] at h
   obtain ⟨rfl,rfl⟩:=aD h
   exact ⟨trivial,none'⟩
 ·obtain ⟨rfl,rfl⟩:=aD h; exact ⟨trivial,none'⟩
 ·obtain ⟨rfl,rfl⟩:=aD h; exact ⟨trivial,none'⟩
 ·rename_i sz bytes t z n g t' z' m g'
  cases hb:Nat.beq z' sz with
  | false=>rw [hb] at h; exact (aB h).elim
  | true =>
   rw [hb] at h
   obtain ⟨h1,h2⟩:=p5 h
   exact ⟨h1.flat,by rw [h2]; simp⟩
 ·rename_i sz bytes t z n g b
  cases hb:Nat.beq sz 1 with
  | false=>rw [hb] at h; exact (aB h).elim
  | true =>
   rw [hb] at h
   obtain ⟨h1,h2⟩:=p5 h
   exact ⟨h1.flat,by rw [h2]; simp⟩
 ·have h1:=aD5 h
  obtain ⟨_,rfl⟩:=pB (lo:=0) (hi:=0) h
  exact ⟨h1.flat,none'⟩
 ·obtain ⟨rfl,rfl⟩:=aD h; exact ⟨trivial,none'⟩
 ·split at h
  ·obtain ⟨rfl,rfl⟩:=aD h; exact ⟨trivial,none'⟩
  ·exact (aB h).elim
 ·unfold un at h
  split at h
  ·obtain ⟨rfl,rfl⟩:=aD h; exact ⟨trivial,none'⟩
  ·obtain ⟨rfl,rfl⟩:=aD h; exact ⟨trivial,none'⟩
  ·exact (aB h).elim
 ·obtain ⟨rfl,rfl⟩:=aD h; exact ⟨trivial,none'⟩
 ·obtain ⟨rfl,rfl⟩:=aD h; exact ⟨trivial,none'⟩
 ·obtain ⟨_,rfl,rfl⟩:=a8 h; exact ⟨trivial,none'⟩
 ·obtain ⟨rfl,rfl⟩:=aD h; exact ⟨trivial,none'⟩
 ·obtain ⟨rfl,rfl⟩:=aD h; exact ⟨trivial,none'⟩
 ·rename_i f np'
  cases hf:freeze np' hp args with
  | none=>rw [hf] at h; exact (aB h).elim
  | some p =>
   obtain ⟨ds,us⟩:=p
   rw [hf] at h
   obtain ⟨rfl,rfl⟩:=aT h
   exact ⟨trivial,k8 args ds us hf⟩
 ·rename_i i l
  have h1:=ha (.tup l) (by simp)
  cases hb:Nat.blt i l.length with
  | false=>rw [hb] at h; exact (aB h).elim
  | true =>
   rw [hb] at h
   obtain ⟨rfl,rfl⟩:=aD h
   refine ⟨?_,none'⟩
   rcases oW (l:=l) (j:=i) with h2 | h2
   ·have h4:=h1 _ h2
    generalize nth l i .dead=e at h4
    cases e with
    | agg c=>exact fun x hx=>(h4 x hx).1
    | tup c=>exact h4.elim
    | _=>trivial
   ·rw [h2]; trivial
 ·rename_i zero bytes k l k' c
  cases hs:aG zero with
  | false=>rw [hs] at h; exact (aB h).elim
  | true =>
   rw [hs] at h
   obtain ⟨_,rfl,rfl⟩:=a8 h
   exact ⟨trivial,fun y hy=>by simp at hy⟩
 ·obtain ⟨rfl,rfl⟩:=aD h; exact ⟨trivial,none'⟩
 ·obtain ⟨rfl,rfl⟩:=aD h; exact ⟨trivial,none'⟩
 ·obtain ⟨rfl,rfl⟩:=aD h; exact ⟨trivial,none'⟩
 ·obtain ⟨rfl,rfl⟩:=aT h; exact ⟨trivial,fun y hy=>by simp at hy⟩
 ·obtain ⟨rfl,rfl⟩:=aT h
  refine ⟨trivial,fun y hy=>?_⟩
  simp only [List.mem_singleton] at hy
  subst hy
  intro e he
  simp only [List.mem_cons,List.not_mem_nil,or_false] at he
  rcases he with rfl | rfl | rfl <;> trivial
 ·rename_i i
  unfold oH at h
  split at h
  ·rename_i s p hi'
   rcases cP h with ⟨_,rfl,rfl⟩ | ⟨_,rfl,rfl⟩
   ·refine ⟨fun e he=>?_,fun y hy=>?_⟩
    ·simp only [List.mem_cons,List.not_mem_nil,or_false] at he
     rcases he with rfl | rfl | rfl <;> trivial
    ·simp only [List.mem_singleton] at hy
     subst hy
     intro e he
     simp only [List.mem_cons,List.not_mem_nil,or_false] at he
     rcases he with rfl | rfl | rfl <;> trivial
   ·refine ⟨fun e he=>?_,none'⟩
    simp only [List.mem_cons,List.not_mem_nil,or_false] at he
    rcases he with rfl
    trivial
  ·exact (aB h).elim
 ·rename_i va
  obtain ⟨rfl,rfl⟩:=aT h
  refine ⟨trivial,fun y hy=>?_⟩
  simp only [List.mem_singleton] at hy
  subst hy
  intro e he
  simp only [List.mem_cons,List.not_mem_nil,or_false] at he
  rcases he with rfl | rfl <;> trivial
 ·unfold qT at h
  split at h
  ·obtain ⟨rfl,rfl⟩:=aD h; exact ⟨trivial,none'⟩
  ·exact (aB h).elim
 ·unfold sN at h
  split at h
  ·obtain ⟨_,h⟩:=bS h
   obtain ⟨rfl,rfl⟩:=aT h
   refine ⟨trivial,fun y hy=>?_⟩
   simp only [List.mem_singleton] at hy
   subst hy
   intro e he
   simp only [List.mem_cons,List.not_mem_nil,or_false] at he
   rcases he with rfl | rfl <;> trivial
  ·exact (aB h).elim
 ·rename_i comma va zero i k
  unfold sC at h
  split at h
  ·rename_i va' n ks vs hi'
   obtain ⟨hva,h⟩:=bS h
   have hva:va'=va:=by cases va' <;> cases va <;> first | rfl | cases hva
   subst hva
   have hz:∀ ok l,FlatS (kE comma va' ok l):=fun ok l=>by
    have e:FlatS (mkv va' (aI l))∧FlatS (.tup [mkv va' (aI l),.bool ok]):=by
     cases va' with
     | true =>
      refine ⟨fun e he=>?_,fun e he=>?_⟩
      ·obtain ⟨x,_,rfl⟩:=fJ he
       exact d5 x
      ·simp only [List.mem_cons,List.not_mem_nil,or_false] at he
       rcases he with rfl | rfl
       ·intro x hx
        obtain ⟨y,_,rfl⟩:=fJ hx
        exact ⟨d5 y,(bG y).symm⟩
       ·trivial
     | false =>
      have:mkv false (aI l)=(nth l 0 .dead).pure1:=by
       simp only [mkv,cond_false]
       rw [aV]
      rw [this]
      have hc:=d5 (nth l 0 .dead)
      refine ⟨hc.flat,fun e he=>?_⟩
      simp only [List.mem_cons,List.not_mem_nil,or_false] at he
      rcases he with rfl | rfl
      ·generalize (nth l 0 D.dead).pure1=d at hc
       cases d <;> first | trivial | exact hc.elim
      ·trivial
    cases comma with
    | false=>exact e.1
    | true=>exact e.2
   rcases cP h with ⟨_,rfl,rfl⟩ | ⟨_,rfl,rfl⟩
   ·exact ⟨hz _ _,none'⟩
   ·exact ⟨hz _ _,none'⟩
  ·exact (aB h).elim
 ·obtain ⟨rfl,rfl⟩:=aD h; exact ⟨trivial,none'⟩
 ·obtain ⟨rfl,rfl⟩:=aD h; exact ⟨trivial,none'⟩
 ·obtain ⟨rfl,rfl⟩:=aD h; exact ⟨trivial,none'⟩
 ·rcases cP h with ⟨_,rfl,rfl⟩ | ⟨_,rfl,rfl⟩
  ·exact ⟨trivial,none'⟩
  ·exact ⟨trivial,none'⟩
 ·obtain ⟨rfl,rfl⟩:=aD h; exact ⟨trivial,none'⟩
 ·obtain ⟨_,h⟩:=cQ h
  obtain ⟨_,rfl,rfl⟩:=aM h
  exact ⟨trivial,none'⟩
 ·obtain ⟨rfl,rfl⟩:=aD h; exact ⟨trivial,none'⟩
 ·obtain ⟨rfl,rfl⟩:=aD h; exact ⟨trivial,none'⟩
 ·unfold oD at h
  split at h
  ·obtain ⟨_,h⟩:=bS h
   obtain ⟨_,h⟩:=jM h
   have hc:∀ (l:List D) (n:Nat),∀ e∈(aI l).drop n,Cell e:=fun l n e he=>dP l e (List.mem_of_mem_drop he)
   have e1:=eJ h (hc _ _)
   obtain ⟨_,rfl⟩:=bT (lo:=0) (hi:=0) h (aS.2 fun d _=>bI d) (hc _ _)
   exact ⟨e1,none'⟩
  ·exact (aB h).elim
 ·unfold k7 at h
  split at h
  ·obtain ⟨_,h⟩:=bS h
   obtain ⟨_,rfl,rfl⟩:=a8 h
   refine ⟨trivial,fun y hy e he=>?_⟩
   simp only [List.mem_singleton] at hy
   subst hy
   simp only [List.mem_cons,List.not_mem_nil,or_false] at he
   rcases he with rfl | rfl <;> trivial
  ·exact (aB h).elim
 ·obtain ⟨_,h⟩:=cQ h
  unfold pK at h
  split at h
  ·obtain ⟨_,h⟩:=bS h
   obtain ⟨_,rfl,rfl⟩:=a8 h
   refine ⟨trivial,fun y hy e he=>?_⟩
   simp only [List.mem_singleton] at hy
   subst hy
   simp only [List.mem_cons,List.not_mem_nil,or_false] at he
   rcases he with rfl | rfl <;> trivial
  ·exact (aB h).elim
 ·exact (aB h).elim

end
end Go.Abs

/- Two operations that may be run in either order. -/
namespace Go.Abs
open Go

def gw (gd:D) (w:Bool):Option Bool :=
 match gd with
 | .bool b=>some (b==w)
 | .tup []=>some false
 | _=>none

def hZ (E:Env) (o:AO) (hp:Nat→Option (Bool×List D)) (tk:Nat→Option (Nat×Nat)) (args:List D) (gd:D) (k:D→Upd→Prop):Prop :=
 match o.guard with
 | none=>step E o.op o.id hp tk args k
 | some (_,w)=>match gw gd w with
  | some true=>step E o.op o.id hp tk args k
  | some false=>k (.tup []) Upd.none
  | none=>False

def p9 (o:AO) (fr:List D):D:=match o.guard with
 | none=>.dead
 | some (j,_)=>nth fr j .dead

def eT (E:Env):Prop:=∀ j C,ag E j=some C→(∀ ds bs K K',(∀ rs bs',K rs bs'→K' rs bs')→C ds bs K→C ds bs K')∧∀ ds bs K,C ds bs K→∃ rs bs',K rs bs'

section
variable {E:Env} {o p q:AO} {hp hp':Nat→Option (Bool×List D)} {tk tk':Nat→Option (Nat×Nat)} {args:List D} {k k':D→Upd→Prop} {s:St} {lo hi:Nat}

theorem aDP {l:List D} {j:Nat} {d:D} (h:nth l j .dead=d) (hd:d≠.dead):upd l j d=l:=by
 induction l generalizing j with
 | nil=>rfl
 | cons a l ih=>cases j with
  | zero=>simp only [nth] at h; subst h; rfl
  | succ j=>simp only [nth] at h; simp only [upd,ih h]

theorem vB:∀ (l:List D) (i:Nat) (d:D) (k:List D→Prop),aDM l i d k=k (upd l i d)
 | [],_,_,_=>rfl
 | _::_,0,_,_=>rfl
 | a::l,i+1,d,k=>vB l i d fun l'=>k (a::l')

theorem aFN (dst:Option Nat) (v:D) (fr:List D) (k:List D→Prop):aEV dst v fr k=k (eG dst v fr):=by
 cases dst with
 | none=>rfl
 | some d=>exact vB fr d v k

theorem f9 (E:Env) (o:AO) (s:St) (k:St→Prop):gOp E o s k↔hZ E o s.hp s.tk (evs s.fr o.args) (p9 o s.fr) (fun v u=>k (s.next o.dst v u)):=by
 unfold gOp hZ p9 aFE
 simp only [aFN,vB]
 cases hg:o.guard with
 | none=>exact Iff.rfl
 | some jw =>
  obtain ⟨j,w⟩:=jw
  simp only
  cases hd:nth s.fr j .dead with
  | bool b =>
   simp only
   have hs:upd s.fr j (.bool b)=s.fr:=aDP hd (by simp)
   cases b <;> cases w <;> simp only [Br,hs,gw] <;> exact Iff.rfl
  | tup l=>cases l <;> exact Iff.rfl
  | _=>exact Iff.rfl

theorem aAL {C:aL} (hC:∀ ds bs K K',(∀ rs bs',K rs bs'→K' rs bs')→C ds bs K→C ds bs K') {id:Nat} {vs:List D} (h:∀ v u,k v u→k' v u) (hk:eK C id vs hp k):eK C id vs hp k':=by
 unfold eK at hk ⊢
 cases hb:cN hp (ptrs vs) with
 | none=>rw [hb] at hk; exact hk.elim
 | some bs =>
  rw [hb] at hk
  simp only at hk ⊢
  cases hd:cY (ptrs vs) with
  | false=>rw [hd] at hk; exact hk.elim
  | true =>
   rw [hd] at hk
   obtain ⟨h1,h2⟩:=(kZ vs bs _).1 hk
   exact (kZ vs bs _).2 ⟨h1,hC _ _ _ _ (fun rs bs' hh=>by
    obtain ⟨v,u,h1,h2⟩:=cJ hh
    exact fO h1 (h v u h2)) h2⟩

theorem uV {o:Out} (h:∀ v u,k v u→k' v u) (hk:o.then k):o.then k':=by
 obtain ⟨v,u,h1,h2⟩:=cJ hk
 exact fO h1 (h v u h2)

def callee (E:Env) (op:AOp) (args:List D):Option (aL×List D×Bool) :=
 match op with
 | .call p f=>(ag E f).map fun C=>(C,args,p)
 | .callv p=>match args with
  | .fn f cap::r=>(ag E f).map fun C=>(C,r++cap,p)
  | _=>none
 | _=>none

theorem zU (p b:Bool) (X:Prop):(bif p then X else Br b X False)↔((p=true∨b=true)∧X):=by
 cases p <;> cases b <;> simp [Br]

theorem hH {op:AOp} (hc:c6 op=true) (id:Nat):step E op id hp tk args k↔∃ C vs p,callee E op args=some (C,vs,p)∧(p=true∨oJ vs=true)∧eK C id vs hp k:=by
 rw [i3]
 cases op <;> first | cases hc | skip
 ·rename_i p f
  simp only [callee]
  cases hE:ag E f with
  | none=>simp
  | some C =>
   simp only [Option.map_some,Option.some.injEq,Prod.mk.injEq]
   rw [zU]
   constructor
   ·exact fun h=>⟨C,args,p,⟨rfl,rfl,rfl⟩,h⟩
   ·rintro ⟨_,_,_,⟨rfl,rfl,rfl⟩,h⟩
    exact h
 ·rename_i p
  simp only [callee]
  split
  ·rename_i f cap r
   cases hE:ag E f with
   | none =>
    constructor
    ·exact fun h=>h.elim
    ·rintro ⟨_,_,_,h,_⟩
     simp [hE] at h
   | some C =>
    constructor
    ·exact fun h=>⟨C,r++cap,p,by simp [hE],(zU _ _ _).1 h⟩
    ·rintro ⟨_,_,_,h,h2⟩
     simp only [hE,Option.map_some,Option.some.injEq,Prod.mk.injEq] at h
     obtain ⟨rfl,rfl,rfl⟩:=h
     exact (zU _ _ _).2 h2
  ·simp

theorem fC {op:AOp} (hc:c6 op=false) (id:Nat):step E op id hp tk args k↔(aQ op id hp tk args).then k:=by
 rw [i3]
 cases op <;> first | exact Iff.rfl | cases hc

theorem o8 {op:AOp} {C:aL} {vs:List D} {p:Bool} (h:callee E op args=some (C,vs,p)):∃ j,ag E j=some C:=by
 unfold callee at h
 split at h
 ·rw [Option.map_eq_some_iff] at h
  obtain ⟨C',h1,h2⟩:=h
  cases h2
  exact ⟨_,h1⟩
 ·split at h
  ·rw [Option.map_eq_some_iff] at h
   obtain ⟨C',h1,h2⟩:=h
   cases h2
   exact ⟨_,h1⟩
  ·cases h
 ·cases h

theorem uQ (hE:eT E) {op:AOp} {id:Nat} (h:∀ v u,k v u→k' v u) (hk:step E op id hp tk args k):step E op id hp tk args k':=by
 cases hc:c6 op with
 | true =>
  obtain ⟨C,vs,p,h1,h2,h3⟩:=(hH hc id).1 hk
  obtain ⟨j,hj⟩:=o8 h1
  exact (hH hc id).2 ⟨C,vs,p,h1,h2,aAL (hE j C hj).1 h h3⟩
 | false=>exact (fC hc id).2 (uV h ((fC hc id).1 hk))

theorem mU {C:aL} {id:Nat} {vs:List D}:eK C id vs hp k↔∃ bs,cN hp (ptrs vs)=some bs∧cY (ptrs vs)=true∧l7 vs bs True∧C (kD vs 0) bs (fun rs bs'=>(fT id (ptrs vs) hp bs rs bs').then k):=by
 have hBr:∀ (b:Bool) (X:Prop),Br b X False↔(b=true∧X):=fun b X=>by cases b <;> simp [Br]
 unfold eK
 cases hb:cN hp (ptrs vs) with
 | none=>simp
 | some bs =>
  simp only [hBr]
  rw [kZ]
  constructor
  ·rintro ⟨h1,h2,h3⟩
   exact ⟨bs,rfl,h1,h2,h3⟩
  ·rintro ⟨_,h,h1,h2,h3⟩
   cases h
   exact ⟨h1,h2,h3⟩

theorem tU (hE:eT E) {op:AOp} {id:Nat} (hk:step E op id hp tk args k):∃ v u,k v u:=by
 cases hc:c6 op with
 | true =>
  obtain ⟨C,vs,p,h1,h2,h3⟩:=(hH hc id).1 hk
  obtain ⟨j,hj⟩:=o8 h1
  obtain ⟨bs,_,_,_,h6⟩:=mU.1 h3
  obtain ⟨rs,bs',h7⟩:=(hE j C hj).2 _ _ _ h6
  obtain ⟨v,u,_,h8⟩:=cJ h7
  exact ⟨v,u,h8⟩
 | false =>
  obtain ⟨v,u,_,h2⟩:=cJ ((fC hc id).1 hk)
  exact ⟨v,u,h2⟩

theorem eR (hE:eT E) {gd:D} (h:∀ v u,k v u→k' v u) (hk:hZ E o hp tk args gd k):hZ E o hp tk args gd k':=by
 unfold hZ at hk ⊢
 cases hg:o.guard with
 | none=>rw [hg] at hk; exact uQ hE h hk
 | some jw =>
  obtain ⟨j,w⟩:=jw
  rw [hg] at hk
  simp only at hk ⊢
  cases hb:gw gd w with
  | none=>rw [hb] at hk; exact hk.elim
  | some b =>
   rw [hb] at hk
   cases b with
   | true=>exact uQ hE h hk
   | false=>exact h _ _ hk

theorem tZ (hE:eT E) {gd:D} (hk:hZ E o hp tk args gd k):∃ v u,k v u:=by
 unfold hZ at hk
 split at hk
 ·exact tU hE hk
 ·split at hk
  ·exact tU hE hk
  ·exact ⟨_,_,hk⟩
  ·exact hk.elim

theorem mT:∀ {l:List D},oJ l=true→ptrs l=[]
 | [],_=>rfl
 | d::l,h=>by
  cases d <;> first | cases h | exact mT (l:=l) h

structure Keys (op:AOp) (id:Nat) (tk:Nat→Option (Nat×Nat)) (u:Upd):Prop where
 q:sI op=true→u=Upd.none
 h:mO op id=false→∀ x∈u.h,id≤x.1∧x.1 < id+bE op
 t:∀ x∈u.t,(id≤x.1∧x.1 < id+bE op)∨(gV op=true∧tk x.1≠none)

theorem Keys.none {op:AOp} {id:Nat}:Keys op id tk Upd.none:=⟨fun _=>rfl,fun _ x hx=>by simp [Upd.none] at hx,fun x hx=>by simp [Upd.none] at hx⟩

theorem gI {g:Bool} {n:Nat} {l:List D} {v:D} {u:Upd} (h:(bP g n l).holds v u):u=Upd.none:=by
 unfold bP at h
 cases hb:Nat.ble n l.length with
 | false=>rw [hb] at h; exact (aB h).elim
 | true=>rw [hb] at h; exact (aD h).2

theorem aF3 {op:BinOp} {x y v:D} {u:Upd} (h:(bin op x y).holds v u):u=Upd.none:=(pB (lo:=0) (hi:=0) h).2

theorem p7 {sz bytes id:Nat} {t:Tag} {z n:Nat} {g:Nat→List D} {m:Nat} {k:Nat→List D} {v:D} {u:Upd} (h:(cU id sz bytes tk t z n g m k).holds v u):Keys (.append sz bytes) id tk u:=by
 unfold cU at h
 cases hb:Nat.beq z sz with
 | false=>rw [hb] at h; exact (aB h).elim
 | true =>
  rw [hb] at h
  simp only [Bool.not_true,cond_false] at h
  split at h
  ·rename_i i
   split at h
   ·rename_i z' n' hi'
    cases hb2:Nat.beq z' sz with
    | false=>rw [hb2] at h; exact (aB h).elim
    | true =>
     rw [hb2] at h
     obtain ⟨_,rfl,rfl⟩:=a8 h
     refine ⟨fun h=>(by cases h),fun _ x hx=>by simp at hx,fun x hx=>?_⟩
     simp only [List.mem_singleton] at hx
     subst hx
     exact .inr ⟨rfl,by simp [hi']⟩
   ·exact (aB h).elim
  ·obtain ⟨_,rfl,rfl⟩:=a8 h
   refine ⟨fun h=>(by cases h),fun _ x hx=>by simp at hx,fun x hx=>?_⟩
   simp only [List.mem_singleton] at hx
   subst hx
   exact .inl (by simp [bE])
  ·exact (aB h).elim

theorem aEZ {op:AOp} {id:Nat} {v:D} {u:Upd} (hh:(aQ op id hp tk args).holds v u):Keys op id tk u:=by
 have N:∀ {u:Upd},u=Upd.none→Keys op id tk u:=fun h=>h ▸ Keys.none
 unfold aQ at hh
 split at hh
 all_goals (try (exact (aB hh).elim))
 all_goals (try (exact N (aD hh).2))
 all_goals (try (exact N (aM hh).2.2))
 all_goals (try (exact N (a8 hh).2.2))
 all_goals (try (exact N (gI hh)))
 all_goals (try (exact N (aF3 hh)))
 ·rename_i cells
  cases hs:aG cells with
  | false=>rw [hs] at hh; exact (aB hh).elim
  | true =>
   rw [hs] at hh
   obtain ⟨rfl,rfl⟩:=aT hh
   refine ⟨fun h=>(by cases h),fun _ x hx=>?_,fun x hx=>.inl ?_⟩
   ·simp only [List.mem_singleton] at hx
    subst hx
    simp only [bE]
    omega
   ·have h1:=fM _ _ _ hx
    have h2:=jH _ _ _ hx
    simp only [bE]
    omega
 ·rename_i x
  cases hs:aG x.cells with
  | false=>rw [hs] at hh; exact (aB hh).elim
  | true =>
   rw [hs] at hh
   obtain ⟨rfl,rfl⟩:=aT hh
   refine ⟨fun h=>(by cases h),fun _ x hx=>?_,fun x hx=>by simp at hx⟩
   simp only [List.mem_singleton] at hx
   subst hx
   simp [bE]
 ·split at hh
  ·exact N (gI (bS hh).2)
  ·exact (aB hh).elim
 ·rename_i n i off x
  split at hh
  ·rename_i cs hi'
   replace hh:=(cQ hh).2
   cases hb:(aG x.cells&&Nat.beq x.cells.length n&&Nat.ble (off+n) cs.length) with
   | false=>rw [hb] at hh; exact (aB hh).elim
   | true =>
    rw [hb] at hh
    obtain ⟨rfl,rfl⟩:=aT hh
    exact ⟨fun h=>(by cases h),fun h=>(by cases h),fun x hx=>by simp at hx⟩
  ·exact (aB hh).elim
 ·rename_i sz t z n g k i
  cases hb:Nat.beq z sz with
  | false=>rw [hb] at hh; exact (aB hh).elim
  | true=>rw [hb] at hh; exact N (aM hh).2.2
 ·rename_i g sz len l k i
  cases hl:bP g sz (l.drop (i.toNat * sz)) with
  | ok v' u' =>
   rw [hl] at hh
   obtain ⟨_,rfl,rfl⟩:=aM hh
   exact N (gI (v:=v) (.inl hl))
  | bad=>rw [hl] at hh; exact (aB hh).elim
  | ask p v' u'=>rw [hl] at hh; exact (aB hh).elim
  | chk p v' u'=>rw [hl] at hh; exact (aB hh).elim
  | alt p v' u' v2 u2=>rw [hl] at hh; exact (aB hh).elim
 ·split at hh
  ·exact N (aD hh).2
  ·exact (aB hh).elim
 ·rename_i sz len zero parts
  split at hh
  ·rename_i l hl
   cases hb:(Nat.beq zero.length sz&&aG l) with
   | false=>rw [hb] at hh; exact (aB hh).elim
   | true=>rw [hb] at hh; exact N (aD hh).2
  ·exact (aB hh).elim
 ·rename_i sz lo' hi' mx t z n g r
  cases hb:Nat.beq z sz with
  | false=>rw [hb] at hh; exact (aB hh).elim
  | true =>
   rw [hb] at hh
   simp only [Bool.not_true,cond_false] at hh
   split at hh
   ·split at hh
    ·split at hh
     ·exact N (aM hh).2.2
     ·exact (aB hh).elim
    ·exact (aB hh).elim
   ·exact (aB hh).elim
 ·split at hh
  ·split at hh
   ·exact N (aM hh).2.2
   ·exact (aB hh).elim
  ·exact (aB hh).elim
 ·rename_i sz len np' i off
  split at hh
  ·rename_i f cs hi'
   replace hh:=(cQ hh).2
   cases hb:(Nat.ble (off+len * sz) cs.length&&Nat.ble np' i) with
   | false=>rw [hb] at hh; exact (aB hh).elim
   | true =>
    rw [hb] at hh
    obtain ⟨rfl,rfl⟩:=aT hh
    exact ⟨fun h=>(by cases h),fun h=>(by cases h),fun x hx=>by simp at hx⟩
  ·exact (aB hh).elim
 ·rename_i sz len np' l
  cases hb:Nat.ble (len * sz) l.length with
  | false=>rw [hb] at hh; exact (aB hh).elim
  | true=>rw [hb] at hh; exact N (aD hh).2
 ·rename_i sz bytes t z n g t' z' m g'
  cases hb:Nat.beq z' sz with
  | false=>rw [hb] at hh; exact (aB hh).elim
  | true=>rw [hb] at hh; exact p7 hh
 ·rename_i sz bytes t z n g b
  cases hb:Nat.beq sz 1 with
  | false=>rw [hb] at hh; exact (aB hh).elim
  | true=>rw [hb] at hh; exact p7 hh
 ·split at hh
  ·exact N (aD hh).2
  ·exact (aB hh).elim
 ·unfold un at hh
  split at hh
  ·exact N (aD hh).2
  ·exact N (aD hh).2
  ·exact (aB hh).elim
 ·rename_i f np'
  split at hh
  ·obtain ⟨rfl,rfl⟩:=aT hh
   exact ⟨fun h=>(by cases h),fun h=>(by cases h),fun x hx=>by simp at hx⟩
  ·exact (aB hh).elim
 ·rename_i i l
  cases hb:Nat.blt i l.length with
  | false=>rw [hb] at hh; exact (aB hh).elim
  | true=>rw [hb] at hh; exact N (aD hh).2
 ·rename_i zero bytes k l k' c
  cases hs:aG zero with
  | false=>rw [hs] at hh; exact (aB hh).elim
  | true =>
   rw [hs] at hh
   obtain ⟨_,rfl,rfl⟩:=a8 hh
   refine ⟨fun h=>(by cases h),fun _ x hx=>by simp at hx,fun x hx=>.inl ?_⟩
   simp only [List.mem_singleton] at hx
   subst hx
   simp [bE]
 ·obtain ⟨rfl,rfl⟩:=aT hh
  refine ⟨fun h=>(by cases h),fun _ x hx=>by simp at hx,fun x hx=>.inl ?_⟩
  simp only [List.mem_singleton] at hx
  subst hx
  simp [bE]
 ·obtain ⟨rfl,rfl⟩:=aT hh
  refine ⟨fun h=>(by cases h),fun _ x hx=>?_,fun x hx=>by simp at hx⟩
  simp only [List.mem_singleton] at hx
  subst hx
  simp [bE]
 ·unfold oH at hh
  split at hh
  ·rcases cP hh with ⟨_,rfl,rfl⟩ | ⟨_,rfl,rfl⟩
   ·exact ⟨fun h=>(by cases h),fun h=>(by cases h),fun x hx=>by simp at hx⟩
   ·exact N rfl
  ·exact (aB hh).elim
 ·obtain ⟨rfl,rfl⟩:=aT hh
  refine ⟨fun h=>(by cases h),fun _ x hx=>?_,fun x hx=>by simp at hx⟩
  simp only [List.mem_singleton] at hx
  subst hx
  simp [bE]
 ·unfold qT at hh
  split at hh
  ·exact N (aD hh).2
  ·exact (aB hh).elim
 ·unfold sN at hh
  split at hh
  ·obtain ⟨_,hh⟩:=bS hh
   obtain ⟨rfl,rfl⟩:=aT hh
   exact ⟨fun h=>(by cases h),fun h=>(by cases h),fun x hx=>by simp at hx⟩
  ·exact (aB hh).elim
 ·unfold sC at hh
  split at hh
  ·obtain ⟨_,hh⟩:=bS hh
   rcases cP hh with ⟨_,rfl,rfl⟩ | ⟨_,rfl,rfl⟩
   ·exact N rfl
   ·exact N rfl
  ·exact (aB hh).elim
 ·rcases cP hh with ⟨_,rfl,rfl⟩ | ⟨_,rfl,rfl⟩
  ·exact N rfl
  ·exact N rfl
 ·obtain ⟨_,hh⟩:=cQ hh
  exact N (aM hh).2.2
 ·unfold oD at hh
  split at hh
  ·obtain ⟨_,hh⟩:=bS hh
   obtain ⟨_,hh⟩:=jM hh
   exact N (gI hh)
  ·exact (aB hh).elim
 ·unfold k7 at hh
  split at hh
  ·obtain ⟨_,hh⟩:=bS hh
   obtain ⟨_,rfl,rfl⟩:=a8 hh
   exact ⟨fun h=>(by cases h),fun h=>(by cases h),fun x hx=>by simp at hx⟩
  ·exact (aB hh).elim
 ·obtain ⟨hc,hh⟩:=cQ hh
  obtain ⟨hc,_⟩:=gK hc
  obtain ⟨hc,_⟩:=gK hc
  unfold pK at hh
  split at hh
  ·obtain ⟨_,hh⟩:=bS hh
   obtain ⟨_,rfl,rfl⟩:=a8 hh
   refine ⟨fun h=>(by cases h),fun h=>?_,fun x hx=>by simp at hx⟩
   have:Nat.ble 1000000 id=false:=h
   rw [hc] at this
   cases this
  ·exact (aB hh).elim

end
end Go.Abs
