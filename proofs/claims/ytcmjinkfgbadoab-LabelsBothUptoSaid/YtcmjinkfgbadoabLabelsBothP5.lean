/- Functions, and what the code asks of them: PPack. -/
import Derived.KernelRfl
import Derived.Test.YtcmjinkfgbadoabLabelsBothP4
set_option linter.unusedVariables false
set_option linter.unusedSimpArgs false
set_option linter.unusedSectionVars false
namespace Go.Abs
open Go
def aP {α:Type} (_:α):Bool:=true
def Let {α:Type} (v:α) (T:α→Prop):Prop:=T v
structure Cnd (b:Bool) (p:Prop):Prop where
 iff:b=true↔p
theorem sT (a:ByteArray):a.toList=a.data.toList:=by
 have key:∀ (n i:Nat) (r:List UInt8),a.size - i=n→ByteArray.toList.loop a i r=r.reverse++a.data.toList.drop i:=by
  intro n
  induction n with
  | zero =>
   intro i r h
   rw [ByteArray.toList.loop]
   have h1:¬i < a.size:=by omega
   rw [if_neg h1,List.drop_eq_nil_of_le (by rw [Array.length_toList]; show a.size≤i; omega),List.append_nil]
  | succ n ih =>
   intro i r h
   rw [ByteArray.toList.loop]
   have h1:i < a.size:=by omega
   have h2:i < a.data.toList.length:=by rw [Array.length_toList]; exact h1
   rw [if_pos h1,ih (i+1) _ (by omega),List.reverse_cons,List.append_assoc,List.drop_eq_getElem_cons h2]
   congr 2
   have h3:a.get! i=a.data.toList[i]:=by
    show a.data[i]! = _
    have h4:i < a.data.size:=h1
    rw [getElem!_pos a.data i h4]
    simp
   rw [h3]
   rfl
 unfold ByteArray.toList
 rw [key _ 0 [] rfl]
 simp
theorem yP {a b:ByteArray} (h:a.data.toList=b.data.toList):a=b:=by
 cases a; cases b
 simp only [ByteArray.mk.injEq]
 exact Array.toList_inj.1 h
theorem toList_inj {a b:ByteArray}:a.toList=b.toList↔a=b:=by
 rw [sT,sT]
 exact ⟨yP,fun h=>by rw [h]⟩
def sLt (a b:ByteArray):Prop:=Op.bytesLess a.toList b.toList=true
def sLe (a b:ByteArray):Prop:=sLt a b∨a=b
namespace Cnd
variable {p q:Prop}
theorem b {c:Bool}:Cnd c (c=true):=⟨Iff.rfl⟩
theorem tt:Cnd true True:=⟨by simp⟩
theorem ff:Cnd false False:=⟨by simp⟩
theorem dec [Decidable p]:Cnd (decide p) p:=⟨decide_eq_true_iff⟩
theorem eq {α:Type} [BEq α] [LawfulBEq α] {x y:α}:Cnd (x==y) (x=y):=⟨beq_iff_eq⟩
theorem ne {α:Type} [BEq α] [LawfulBEq α] {x y:α}:Cnd (x != y) (¬x=y):=⟨bne_iff_ne⟩
theorem seq {x y:ByteArray}:Cnd (x.toList==y.toList) (x=y):=⟨by rw [beq_iff_eq,toList_inj]⟩
theorem not {c:Bool} (h:Cnd c p):Cnd (!c) (¬(p)):=⟨by rw [← h.iff]; cases c <;> simp⟩
theorem and {b c:Bool} (h:Cnd b p) (k:Cnd c q):Cnd (b&&c) ((p)∧(q)):=⟨by rw [← h.iff,← k.iff,Bool.and_eq_true]⟩
theorem or {b c:Bool} (h:Cnd b p) (k:Cnd c q):Cnd (b || c) ((p)∨(q)):=⟨by rw [← h.iff,← k.iff,Bool.or_eq_true]⟩
theorem ix {i n:Int}:Cnd (decide ((0:Int)≤i)&&decide (i < n)) ((0:Int)≤i∧i < n):=⟨by simp⟩
theorem sl {l h n:Int}:Cnd (decide ((0:Int)≤l)&&decide (l≤h)&&decide (h≤n)&&(h==h)) ((0:Int)≤l∧l≤h∧h≤n):=⟨by simp [and_assoc]⟩
theorem sl4 {l h n m:Int}:Cnd (decide ((0:Int)≤l)&&decide (l≤h)&&decide (h≤n)&&(m==h)) ((0:Int)≤l∧l≤h∧h≤n∧m=h):=⟨by simp [and_assoc]⟩
theorem ss {l h n:Int}:Cnd (decide ((0:Int)≤l)&&decide (l≤h)&&decide (h≤n)) ((0:Int)≤l∧l≤h∧h≤n):=⟨by simp [and_assoc]⟩
theorem ble {x y:Nat}:Cnd (Nat.ble x y) (x≤y):=⟨by rw [Nat.ble_eq]⟩
theorem beq {x y:Nat}:Cnd (Nat.beq x y) (x=y):=⟨by rw [Nat.beq_eq]⟩
theorem sl_ {x y:ByteArray}:Cnd (Op.bytesLess x.toList y.toList) (sLt x y):=⟨Iff.rfl⟩
theorem sle {x y:ByteArray}:Cnd (Op.bytesLess x.toList y.toList || x.toList==y.toList) (sLe x y):=⟨by unfold sLe sLt; rw [Bool.or_eq_true,beq_iff_eq,toList_inj]⟩
end Cnd
theorem br {b:Bool} {c p q p' q':Prop} (h:(c→p')∧(¬(c)→q')) (hc:Cnd b c) (f:c→p'→p) (g:¬(c)→q'→q):Br b p q:=by
 cases b with
 | true=>exact f (hc.iff.1 rfl) (h.1 (hc.iff.1 rfl))
 | false =>
  have hn:¬c:=fun h=>by have:=hc.iff.2 h; cases this
  exact g hn (h.2 hn)
theorem chk {b:Bool} {c p p':Prop} (h2:p') (hc:Cnd b c) (h1:c) (f:c→p'→p):Br b p False:=by
 have:=hc.iff.2 h1
 subst this
 exact f h1 h2
theorem jT {k:IntKind} {e:Int} (h:(if k.signed then -(2 ^ (k.bits - 1):Int) else 0)≤e) (h':e≤(if k.signed then (2 ^ (k.bits - 1):Int) else 2 ^ k.bits) - 1):k.wrap e=e:=by
 cases k <;> simp [IntKind.wrap,IntKind.signed,IntKind.bits] at h h' ⊢ <;> (try split) <;> omega
namespace wrapK
variable {e:Int} {T:Int→Prop} {V:Prop}
theorem i8 (h:-128≤e∧e≤127∧V) (f:-128≤e→e≤127→V→T e):Let (IntKind.i8.wrap e) T:=by
 unfold Let; rw [jT (by unfold IntKind.signed IntKind.bits; simp; omega) (by unfold IntKind.signed IntKind.bits; simp; omega)]; exact f h.1 h.2.1 h.2.2
theorem i16 (h:-32768≤e∧e≤32767∧V) (f:-32768≤e→e≤32767→V→T e):Let (IntKind.i16.wrap e) T:=by
 unfold Let; rw [jT (by unfold IntKind.signed IntKind.bits; simp; omega) (by unfold IntKind.signed IntKind.bits; simp; omega)]; exact f h.1 h.2.1 h.2.2
theorem i32 (h:-2147483648≤e∧e≤2147483647∧V) (f:-2147483648≤e→e≤2147483647→V→T e):Let (IntKind.i32.wrap e) T:=by
 unfold Let; rw [jT (by unfold IntKind.signed IntKind.bits; simp; omega) (by unfold IntKind.signed IntKind.bits; simp; omega)]; exact f h.1 h.2.1 h.2.2
theorem i64 (h:-9223372036854775808≤e∧e≤9223372036854775807∧V) (f:-9223372036854775808≤e→e≤9223372036854775807→V→T e):Let (IntKind.i64.wrap e) T:=by
 unfold Let; rw [jT (by unfold IntKind.signed IntKind.bits; simp; omega) (by unfold IntKind.signed IntKind.bits; simp; omega)]; exact f h.1 h.2.1 h.2.2
theorem u8 (h:0≤e∧e≤255∧V) (f:0≤e→e≤255→V→T e):Let (IntKind.u8.wrap e) T:=by
 unfold Let; rw [jT (by unfold IntKind.signed IntKind.bits; simp; omega) (by unfold IntKind.signed IntKind.bits; simp; omega)]; exact f h.1 h.2.1 h.2.2
theorem u16 (h:0≤e∧e≤65535∧V) (f:0≤e→e≤65535→V→T e):Let (IntKind.u16.wrap e) T:=by
 unfold Let; rw [jT (by unfold IntKind.signed IntKind.bits; simp; omega) (by unfold IntKind.signed IntKind.bits; simp; omega)]; exact f h.1 h.2.1 h.2.2
theorem u32 (h:0≤e∧e≤4294967295∧V) (f:0≤e→e≤4294967295→V→T e):Let (IntKind.u32.wrap e) T:=by
 unfold Let; rw [jT (by unfold IntKind.signed IntKind.bits; simp; omega) (by unfold IntKind.signed IntKind.bits; simp; omega)]; exact f h.1 h.2.1 h.2.2
theorem u64 (h:0≤e∧e≤18446744073709551615∧V) (f:0≤e→e≤18446744073709551615→V→T e):Let (IntKind.u64.wrap e) T:=by
 unfold Let; rw [jT (by unfold IntKind.signed IntKind.bits; simp; omega) (by unfold IntKind.signed IntKind.bits; simp; omega)]; exact f h.1 h.2.1 h.2.2
end wrapK
namespace wrapR
variable {e:Int} {T:Int→Prop}
theorem i64 (h:(0:Int)≤e∧e≤255) (t:T e):Let (IntKind.i64.wrap e) T:=wrapK.i64 (V:=True) ⟨by omega,by omega,trivial⟩ (fun _ _ _=>t)
theorem u64 (h:(0:Int)≤e∧e≤255) (t:T e):Let (IntKind.u64.wrap e) T:=wrapK.u64 (V:=True) ⟨by omega,by omega,trivial⟩ (fun _ _ _=>t)
theorem i32 (h:(0:Int)≤e∧e≤255) (t:T e):Let (IntKind.i32.wrap e) T:=wrapK.i32 (V:=True) ⟨by omega,by omega,trivial⟩ (fun _ _ _=>t)
theorem u32 (h:(0:Int)≤e∧e≤255) (t:T e):Let (IntKind.u32.wrap e) T:=wrapK.u32 (V:=True) ⟨by omega,by omega,trivial⟩ (fun _ _ _=>t)
end wrapR
namespace divK
variable {x y:Int} {T:Int→Prop}
theorem le (hx:0≤x) (hy:0 < y):0≤x / y∧x / y≤x:=⟨Int.ediv_nonneg hx (Int.le_of_lt hy),Int.ediv_le_self _ hx⟩
theorem i64 (hx:0≤x) (h:x≤9223372036854775807) (hy:0 < y) (t:T (x / y)):Let (IntKind.i64.wrap (Int.tdiv x y)) T:=by
 have:=le hx hy
 rw [Int.tdiv_eq_ediv_of_nonneg hx]
 exact wrapK.i64 (V:=True) ⟨by omega,by omega,trivial⟩ (fun _ _ _=>t)
theorem u64 (hx:0≤x) (h:x≤18446744073709551615) (hy:0 < y) (t:T (x / y)):Let (IntKind.u64.wrap (Int.tdiv x y)) T:=by
 have:=le hx hy
 rw [Int.tdiv_eq_ediv_of_nonneg hx]
 exact wrapK.u64 (V:=True) ⟨by omega,by omega,trivial⟩ (fun _ _ _=>t)
theorem u32 (hx:0≤x) (h:x≤4294967295) (hy:0 < y) (t:T (x / y)):Let (IntKind.u32.wrap (Int.tdiv x y)) T:=by
 have:=le hx hy
 rw [Int.tdiv_eq_ediv_of_nonneg hx]
 exact wrapK.u32 (V:=True) ⟨by omega,by omega,trivial⟩ (fun _ _ _=>t)
end divK
theorem nU {k b:Nat} (h:k≤1073741824) (hb:b≤131072):oS (k * b):=by
 have:k * b≤1073741824 * 131072:=Nat.mul_le_mul h hb
 unfold oS
 omega
def aMH (s:ByteArray) (n:Nat):Int:=((nth s.data.toList n 0).toNat:Int)
def at_ {α:Type} [Inhabited α] (l:List α) (i:Int):α:=l.getD i.toNat default
def mx (a b:Int):Int:=bif decide (a < b) then b else a
def by1 (c:Int):ByteArray:=⟨#[UInt8.ofNat c.toNat]⟩
def byz (n:Nat):ByteArray:=⟨(List.replicate n 0).toArray⟩
def aHA (b:ByteArray) (lo hi:Int):ByteArray:=b.extract lo.toNat hi.toNat
def uC {α:Type} (l:List α) (lo hi:Int):List α:=(l.drop lo.toNat).take (hi - lo).toNat
def Rds {α:Type} [Inhabited α] (enc:α→List D) (n:Nat) (g:Nat→List D) (l:List α):Prop:=n=l.length∧∀ i,i < l.length→DEqs (g i) (gl enc l i)
def RdB (n:Nat) (g:Nat→List D) (b:ByteArray):Prop:=n=b.size∧∀ i,i < b.size→DEqs (g i) (oQ b i)
namespace Rds
variable {α:Type} [Inhabited α] {enc:α→List D} {n m:Nat} {g h:Nat→List D} {l l':List α}
theorem self:Rds enc l.length (gl enc l) l:=⟨rfl,fun _ _=>DEqs.refl _⟩
theorem nil:Rds enc 0 g []:=⟨rfl,fun i h=>absurd h (Nat.not_lt_zero i)⟩
theorem one {cs:List D} {x:α} (h:DEqs cs (enc x)):Rds enc 1 (fun _=>cs) [x]:=⟨rfl,fun i hi=>by
 have:i=0:=by simp at hi; exact hi
 subst this
 exact h⟩
theorem kI (l l':List α) (i:Nat):(l++l').getD i default=if i < l.length then l.getD i default else l'.getD (i - l.length) default:=by
 simp only [List.getD_eq_getElem?_getD,List.getElem?_append]
 split <;> rfl
theorem rep {x:α}:Rds enc n (fun _=>enc x) (List.replicate n x):=⟨by simp,fun i hi=>by
 rw [List.length_replicate] at hi
 have:gl enc (List.replicate n x) i=enc x:=by simp [gl,List.getD_eq_getElem?_getD,hi]
 rw [this]
 exact DEqs.refl _⟩
theorem app (p:Rds enc n g l) (q:Rds enc m h l'):Rds enc (n+m) (gO g n h) (l++l'):=⟨by rw [p.1,q.1,List.length_append],fun i hi=>by
 rw [List.length_append] at hi
 have e:gl enc (l++l') i=if i < l.length then gl enc l i else gl enc l' (i - l.length):=by
  unfold gl
  rw [kI]
  split <;> rfl
 rw [e]
 unfold gO
 by_cases h1:i < n
 ·have:Nat.blt i n=true:=by rw [Nat.blt_eq]; exact h1
  rw [this,if_pos (by rw [← p.1]; exact h1)]
  exact p.2 i (by rw [← p.1]; exact h1)
 ·have:Nat.blt i n=false:=by rw [← Bool.not_eq_true,Nat.blt_eq]; exact h1
  rw [this,if_neg (by rw [← p.1]; exact h1),p.1]
  exact q.2 (i - l.length) (by rw [p.1] at h1; omega)⟩
theorem sub {lo hi:Int} (p:Rds enc n g l) (h:(0:Int)≤lo∧lo≤hi∧hi≤(n:Int)):Rds enc (Int.toNat (hi - lo)) (aFH g (Int.toNat lo)) (uC l lo hi):=by
 have hn:=p.1
 refine ⟨by simp only [uC,List.length_take,List.length_drop]; omega,fun i hi'=>?_⟩
 simp only [uC,List.length_take,List.length_drop] at hi'
 have e:gl enc (uC l lo hi) i=gl enc l (i+Int.toNat lo):=by
  unfold gl uC
  simp only [List.getD_eq_getElem?_getD,List.getElem?_take,List.getElem?_drop]
  rw [if_pos (by omega),Nat.add_comm]
 rw [e]
 exact p.2 (i+Int.toNat lo) (by omega)
theorem to (p:Rds enc n g l) (h:l=l'):Rds enc n g l':=h ▸ p
theorem deq {t:Tag} {z:Nat} (p:Rds enc n g l):DEq (.slice t z n g) (.slice .ro z l.length (gl enc l)):=by
 obtain ⟨h1,h2⟩:=p
 subst h1
 exact .slice t .ro z _ g _ (.inr rfl) (fun i hi=>(h2 i hi).1) fun i hi=>(h2 i hi).2
theorem aML (h:n=l.length) (e:∀ i,i < l.length→DEqs (g i) (gl enc l i)):Rds enc n g l:=⟨h,e⟩
theorem row (h:n=l.length∧∀ i,i < l.length→g i=gl enc l i):Rds enc n g l:=⟨h.1,fun i hi=>by rw [h.2 i hi]; exact DEqs.refl _⟩
end Rds
theorem rS {α:Type} [Inhabited α] (enc:α→List D) {l:List α}:Rds enc l.length (gl enc l) l:=Rds.self
abbrev wI:Int→Int:=IntKind.i64.wrap
theorem aJU {α:Type} (l m:List α) (d:α) (j:Nat):nth (l++m) j d=if j < l.length then nth l j d else nth m (j - l.length) d:=by
 induction l generalizing j with
 | nil=>simp
 | cons a l ih=>cases j with
  | zero=>simp [nth]
  | succ j=>simp only [List.cons_append,nth,ih,List.length_cons,Nat.add_lt_add_iff_right,Nat.add_sub_add_right]
theorem u7 {α:Type} (l:List α) (d:α) (j:Nat):nth l j d=l.getD j d:=by
 induction l generalizing j with
 | nil=>simp [nth]
 | cons a l ih=>cases j with
  | zero=>simp [nth]
  | succ j=>simp [nth,ih]
theorem aAZ (a b:ByteArray):(a++b).size=a.size+b.size:=ByteArray.size_append
theorem aIK (a b:ByteArray):(a++b).data.toList=a.data.toList++b.data.toList:=by rw [ByteArray.data_append,Array.toList_append]
namespace RdB
variable {n m:Nat} {g h:Nat→List D} {b b':ByteArray}
theorem self:RdB b.size (oQ b) b:=⟨rfl,fun _ _=>DEqs.refl _⟩
theorem nil:RdB 0 g ByteArray.empty:=⟨rfl,fun i h=>absurd h (Nat.not_lt_zero i)⟩
theorem one {c:Int} (h:(0:Int)≤c∧c≤255):RdB 1 (fun _=>[.int .u8 c]) (by1 c):=⟨rfl,fun i hi=>by
 have:i=0:=by
  have h2:(by1 c).size=1:=rfl
  omega
 subst this
 have:oQ (by1 c) 0=[.int .u8 c]:=by
  have e:((UInt8.ofNat c.toNat).toNat:Int)=c:=by
   rw [UInt8.toNat_ofNat']
   omega
  show [D.int .u8 ((UInt8.ofNat c.toNat).toNat:Int)]=_
  rw [e]
 rw [this]
 exact DEqs.refl _⟩
theorem aC4:(byz n).size=n:=by simp [byz,ByteArray.size]
theorem rep:RdB n (fun _=>[.int .u8 0]) (byz n):=⟨aC4.symm,fun i hi=>by
 rw [aC4] at hi
 have:oQ (byz n) i=[.int .u8 0]:=by
  show [D.int .u8 ((nth (byz n).data.toList i 0).toNat:Int)]=_
  rw [u7]
  simp [byz,List.getD_eq_getElem?_getD,hi]
 rw [this]
 exact DEqs.refl _⟩
theorem app (p:RdB n g b) (q:RdB m h b'):RdB (n+m) (gO g n h) (b++b'):=⟨by rw [p.1,q.1,aAZ],fun i hi=>by
 rw [aAZ] at hi
 have e:oQ (b++b') i=if i < b.size then oQ b i else oQ b' (i - b.size):=by
  unfold oQ
  rw [aIK,aJU,Array.length_toList]
  show _=if i < b.data.size then _ else [D.int .u8 ((nth b'.data.toList (i - b.data.size) 0).toNat:Int)]
  split <;> rfl
 rw [e]
 unfold gO
 by_cases h1:i < n
 ·have:Nat.blt i n=true:=by rw [Nat.blt_eq]; exact h1
  rw [this,if_pos (by rw [← p.1]; exact h1)]
  exact p.2 i (by rw [← p.1]; exact h1)
 ·have:Nat.blt i n=false:=by rw [← Bool.not_eq_true,Nat.blt_eq]; exact h1
  rw [this,if_neg (by rw [← p.1]; exact h1),p.1]
  exact q.2 (i - b.size) (by rw [p.1] at h1; omega)⟩
theorem aHL {lo hi:Int} (h:(0:Int)≤lo∧lo≤hi∧hi≤(b.size:Int)):(aHA b lo hi).size=Int.toNat (hi - lo):=by
 simp only [aHA,ByteArray.size_extract]
 omega
theorem sub {lo hi:Int} (p:RdB n g b) (h:(0:Int)≤lo∧lo≤hi∧hi≤(n:Int)):RdB (Int.toNat (hi - lo)) (aFH g (Int.toNat lo)) (aHA b lo hi):=by
 have hn:=p.1
 have hs:=aHL (b:=b) (lo:=lo) (hi:=hi) (by rw [← hn]; exact h)
 refine ⟨hs.symm,fun i hi'=>?_⟩
 rw [hs] at hi'
 have e:oQ (aHA b lo hi) i=oQ b (i+Int.toNat lo):=by
  unfold oQ aHA
  rw [ByteArray.data_extract,u7,u7]
  simp only [List.getD_eq_getElem?_getD,Array.getElem?_toList,Array.getElem?_extract]
  have hb:b.data.size=b.size:=rfl
  rw [if_pos (by omega),Nat.add_comm]
 rw [e]
 exact p.2 (i+Int.toNat lo) (by omega)
theorem to (p:RdB n g b) (h:b=b'):RdB n g b':=h ▸ p
theorem deq {t:Tag} (p:RdB n g b):DEq (.slice t 1 n g) (.slice .ro 1 b.size (oQ b)):=by
 obtain ⟨h1,h2⟩:=p
 subst h1
 exact .slice t .ro 1 _ g _ (.inr rfl) (fun i hi=>(h2 i hi).1) fun i hi=>(h2 i hi).2
theorem at_ (p:RdB n g b) {i:Nat} (hi:i < n):g i=[.int .u8 ((nth b.data.toList i 0).toNat:Int)]:=by
 have h1:=p.2 i (by rw [← p.1]; exact hi)
 have h2:(g i).length=1:=h1.1
 have h3:=h1.2 0
 match hg:g i,h2 with
 | [d],_ =>
  rw [hg] at h3
  have h4:DEq d (.int .u8 ((nth b.data.toList i 0).toNat:Int)):=h3
  cases h4
  rfl
theorem bytes (p:RdB n g b):aHF n g:=fun i hi=>⟨nth b.data.toList i 0,p.at_ hi⟩
theorem text (p:RdB n g b):wB n g=b:=by
 have key:∀ k,k≤n→kB g k=b.data.toList.take k:=by
  intro k
  induction k with
  | zero=>intro _; simp [kB]
  | succ k ih =>
   intro hk
   have hlt:k < b.data.toList.length:=by rw [Array.length_toList]; show k < b.size; rw [← p.1]; omega
   rw [kB,ih (by omega),p.at_ (by omega),List.take_succ_eq_append_getElem hlt]
   congr 2
   show UInt8.ofNat (Int.toNat ((nth b.data.toList k 0).toNat:Int))=_
   rw [Int.toNat_natCast,UInt8.ofNat_toNat,dK _ _ hlt]
 apply yP
 show (kB g n).toArray.toList=_
 rw [key n (Nat.le_refl _),List.take_of_length_le (by rw [Array.length_toList]; show b.size≤n; rw [p.1]; exact Nat.le_refl _)]
end RdB
def SlQ (n m:Nat) (g h:Nat→List D) (k:Prop):Prop:=n=m∧(∀ i,i < m→DEqs (g i) (h i))∧k
def SlS {α:Type} [Inhabited α] (enc:α→List D) (l:List α) (k:Prop):Prop:=l.length=l.length∧(∀ i,i < l.length→DEqs (gl enc l i) (gl enc l i))∧k
theorem slQ {n m:Nat} {g h:Nat→List D} {k:Prop} (p:n=m∧∀ i,i < m→DEqs (g i) (h i)) (r:k):SlQ n m g h k:=⟨p.1,p.2,r⟩
theorem SlS.mk {α:Type} [Inhabited α] {enc:α→List D} {l:List α} {k:Prop} (r:k):SlS enc l k:=⟨rfl,fun _ _=>DEqs.refl _,r⟩
def ts:List Nat→List AX
 | []=>[]
 | x::l=>.t x::ts l
def oT (d i:Nat) (op:AOp) (xs:List Nat):AO:=⟨some d,i,op,ts xs,none⟩
def oR (d i:Nat) (op:AOp) (xs:List Nat):AO:=⟨some d,1000000+i,op,ts xs,none⟩
def mT (d i x:Nat):AO:=⟨some d,i,.move,[.t x],none⟩
def mR (d i x:Nat):AO:=⟨some d,1000000+i,.move,[.t x],none⟩
def oG (d i:Nat) (op:AOp) (xs:List Nat) (j:Nat) (w:Bool):AO:=⟨some d,i,op,ts xs,some (j,w)⟩
theorem aMC {p q k:Prop} (h:p∧q) (f:p→q→k):k:=f h.1 h.2
theorem Rds.gset {α:Type} [Inhabited α] {enc:α→List D} {n:Nat} {g:Nat→List D} {l:List α} {i:Nat} {cs:List D} {x:α} (p:Rds enc n g l) (h:DEqs cs (enc x)):Rds enc n (gset g i cs) (List.set l i x) :=
 ⟨by rw [p.1,List.length_set],fun j hj=>by
  rw [List.length_set] at hj
  unfold Abs.gset gl
  cases hb:Nat.beq j i with
  | true =>
   have:=Nat.eq_of_beq_eq_true hb
   subst this
   simp only [cond_true,List.getD_eq_getElem?_getD,List.getElem?_set_self hj,Option.getD_some]
   exact h
  | false =>
   have hne:i≠j:=fun e=>by rw [e,Nat.beq_refl] at hb; cases hb
   simp only [cond_false,List.getD_eq_getElem?_getD,List.getElem?_set_ne hne]
   have:=p.2 j hj
   unfold gl at this
   rw [List.getD_eq_getElem?_getD] at this
   exact this⟩
theorem uI {α:Type} [Inhabited α] {enc:α→List D} (g:Nat→List D) {n:Nat} {l:List α} (h:Rds enc n g l):n=l.length:=h.1
theorem b2s {n:Nat} {g:Nat→List D} {b:ByteArray} {V:Prop} {T:ByteArray→Prop} (h:V) (p:RdB n g b) (f:V→T b):aHF n g∧Let (wB n g) T :=
 ⟨p.bytes,by unfold Let; rw [p.text]; exact f h⟩
def mks {α:Type} [Inhabited α] (l:List (ByteArray×α)):Nat→ByteArray:=fun i=>(l.getD i default).1
def mvs {α:Type} [Inhabited α] (enc:α→List D) (l:List (ByteArray×α)):Nat→List D:=fun i=>enc (l.getD i default).2
def pU {α:Type}:List (ByteArray×α)→ByteArray→α→List (ByteArray×α)
 | [],k,v=>[(k,v)]
 | (a,b)::l,k,v=>if a=k then (k,v)::l else (a,b)::pU l k v
def Mds {α:Type} [Inhabited α] (enc:α→List D) (n:Nat) (ks:Nat→ByteArray) (vs:Nat→List D) (l:List (ByteArray×α)):Prop :=
 n=l.length∧(∀ i,i < l.length→ks i=mks l i)∧∀ i,i < l.length→DEqs (vs i) (mvs enc l i)
theorem gF (ks:Nat→ByteArray) (key:ByteArray):∀ n,mpF ks key n≤n
 | 0=>Nat.le_refl _
 | n+1=>by
  simp only [mpF]
  have:=gF ks key n
  split
  ·omega
  ·split <;> omega
theorem aA4 {ks ks':Nat→ByteArray} (key:ByteArray):∀ n,(∀ i,i < n→ks i=ks' i)→mpF ks key n=mpF ks' key n
 | 0,_=>rfl
 | n+1,h=>by
  simp only [mpF,aA4 key n fun i hi=>h i (by omega),h n (by omega)]
theorem vW {α:Type} [Inhabited α] (a:ByteArray) (b:α) (l:List (ByteArray×α)) (k:ByteArray):∀ n,mpF (mks ((a,b)::l)) k (n+1)=if a=k then 0 else mpF (mks l) k n+1
 | 0=>by
  simp only [mpF,mks,List.getD_cons_zero]
  split <;> simp_all
 | n+1=>by
  rw [mpF,vW a b l k n]
  by_cases h:a=k
  ·simp [h]
  ·simp only [if_neg h]
   show (if mpF (mks l) k n+1 < n+1 then mpF (mks l) k n+1 else if mks ((a,b)::l) (n+1)=k then n+1 else n+1+1)=mpF (mks l) k (n+1)+1
   rw [mpF]
   have:mks ((a,b)::l) (n+1)=mks l n:=by simp [mks]
   rw [this]
   by_cases h1:mpF (mks l) k n < n
   ·rw [if_pos (by omega),if_pos h1]
   ·rw [if_neg (by omega),if_neg h1]
    split <;> rfl
theorem mV {α:Type} [Inhabited α] (k:ByteArray) (v:α):∀ l:List (ByteArray×α),(pU l k v).length=mpN (mks l) k l.length
 | []=>by simp [pU,mpN,mpF]
 | (a,b)::l=>by
  simp only [pU,mpN,List.length_cons,vW]
  by_cases h:a=k
  ·simp [h]
  ·simp only [if_neg h,List.length_cons,mV k v l,mpN,Nat.add_lt_add_iff_right]
   split <;> rfl
theorem y5 {α:Type} [Inhabited α] (k:ByteArray) (v:α):∀ (l:List (ByteArray×α)) (i:Nat),i < (pU l k v).length→(pU l k v).getD i default=if i=mpF (mks l) k l.length then (k,v) else l.getD i default
 | [],i,h=>by
  have:i=0:=by simpa [pU] using h
  subst this
  simp [pU,mpF]
 | (a,b)::l,i,h=>by
  simp only [pU] at h ⊢
  rw [List.length_cons,vW]
  by_cases ha:a=k
  ·rw [if_pos ha] at h ⊢
   rw [if_pos ha]
   cases i with
   | zero=>simp
   | succ i=>simp
  ·rw [if_neg ha] at h ⊢
   rw [if_neg ha]
   cases i with
   | zero=>simp
   | succ i =>
    simp only [List.getD_cons_succ,Nat.add_right_cancel_iff]
    exact y5 k v l i (by simpa using h)
namespace Mds
variable {α:Type} [Inhabited α] {enc:α→List D} {n:Nat} {ks:Nat→ByteArray} {vs:Nat→List D} {l l':List (ByteArray×α)}
theorem self:Mds enc l.length (mks l) (mvs enc l) l:=⟨rfl,fun _ _=>rfl,fun _ _=>DEqs.refl _⟩
theorem nil:Mds enc 0 ks vs []:=⟨rfl,fun i h=>absurd h (Nat.not_lt_zero i),fun i h=>absurd h (Nat.not_lt_zero i)⟩
theorem set {cs:List D} {k:ByteArray} {x:α} (p:Mds enc n ks vs l) (h:DEqs cs (enc x)):Mds enc (mpN ks k n) (gD ks k n) (gE ks vs k cs n) (pU l k x):=by
 obtain ⟨rfl,p2,p3⟩:=p
 have hf:mpF ks k l.length=mpF (mks l) k l.length:=aA4 k _ p2
 have hlen:mpN ks k l.length=(pU l k x).length:=by rw [mV,mpN,mpN,hf]
 have hub:=gF (mks l) k l.length
 have hnew:∀ i,i < (pU l k x).length→i≠mpF (mks l) k l.length→i < l.length:=fun i hi hne=>by
  rw [mV,mpN] at hi
  split at hi <;> omega
 refine ⟨hlen,fun i hi=>?_,fun i hi=>?_⟩
 ·show gD ks k l.length i=((pU l k x).getD i default).1
  rw [y5 k x l i hi,gD,hf]
  split
  ·rfl
  ·rename_i hne
   exact p2 i (hnew i hi hne)
 ·show DEqs (gE ks vs k cs l.length i) (enc ((pU l k x).getD i default).2)
  rw [y5 k x l i hi,gE,hf]
  split
  ·exact h
  ·rename_i hne
   exact p3 i (hnew i hi hne)
theorem to (p:Mds enc n ks vs l) (h:l=l'):Mds enc n ks vs l':=h ▸ p
end Mds
def aL9 (n:Nat):Nat:=if n=0 then 0 else n.log2+1
def nb (n:Nat):Nat:=(aL9 n+7) / 8
def be:Nat→Nat→List UInt8
 | 0,_=>[]
 | k+1,n=>be k (n / 256)++[UInt8.ofNat n]
def num (n:Nat):ByteArray:=⟨(UInt8.ofNat (nb n)::be (nb n) n).toArray⟩
def val (b:ByteArray) (i:Nat):Nat→Int
 | 0=>0
 | k+1=>val b i k * 256+aMH b (i+k)
def U64 (n:Int):Prop:=0≤n∧n≤18446744073709551615
theorem U64.lt {n:Int} (h:U64 n):n.toNat < 2 ^ 64:=by obtain ⟨h1,h2⟩:=h; omega
def aMJ:Codec (Int):=aCK .u64
def aIZ:Codec (Int):=aCK .i64
def aG (x:ByteArray):List D:=[.str x]
def sQ:Codec (ByteArray):=aH8
abbrev aB:Type:=ByteArray×ByteArray
def aD (x:aB):List D:=[.str x.1,.str x.2]
def eK:Codec (aB):=aAX (kS sQ sQ)
def aA (x:List (aB)):List D:=[.slice .ro 2 x.length (gl aD x)]
def bZ:Codec (List (aB)):=iG eK
def aII:Codec (Bool):=aBB
def aHW:Codec (List (ByteArray)):=iG sQ
abbrev aE:Type:=Int×ByteArray×(List (aB))
def aH (x:aE):List D:=[.int .i64 x.1,.str x.2.1,.slice .ro 2 x.2.2.length (gl aD x.2.2)]
def bU:Codec (aE):=aAX (kS aIZ (kS sQ bZ))
def bD:Codec (List (aE)):=iG bU
def aMN:Codec (Int):=aCK .u8
def aMK:Codec (Int):=aCK .i32
def q9:Codec (List (List (aB))):=iG bZ
abbrev aJ:Type:=(List (ByteArray))×(List (List (aB)))
def wX:Codec (aJ):=aAX (kS aHW q9)
set_option linter.unusedVariables false
end Go.Abs
