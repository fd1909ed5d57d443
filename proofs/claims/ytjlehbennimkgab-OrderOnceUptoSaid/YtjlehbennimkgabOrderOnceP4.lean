/- Functions, and what the code asks of them: PPack. -/
import Derived.KernelRfl
import Derived.Test.YtjlehbennimkgabOrderOnceP3
set_option linter.unusedVariables false
set_option linter.unusedSimpArgs false
namespace Go.Abs
open Go
def a9 {α:Type} (_:α):Bool:=true
def Let {α:Type} (v:α) (T:α→Prop):Prop:=T v
structure Cnd (b:Bool) (p:Prop):Prop where
 iff:b=true↔p
theorem qX (a:ByteArray):a.toList=a.data.toList:=by
 have key:∀ (n i:Nat) (r:List UInt8),a.size - i=n→ByteArray.toList.loop a i r=r.reverse++a.data.toList.drop i:=by
  intro n
  induction n with
  | zero =>
   intro i r h
   rw [ByteArray.toList.loop]
   have h1:¬i < a.size:=by omega
   rw [if_neg h1,List.drop_eq_nil_of_le (by rw [Array.length_toList]; show a.size≤i; omega),List.append_nil]
  | succ n ih =>
   intro i r h
   rw [ByteArray.toList.loop]
   have h1:i < a.size:=by omega
   have h2:i < a.data.toList.length:=by rw [Array.length_toList]; exact h1
   rw [if_pos h1,ih (i+1) _ (by omega),List.reverse_cons,List.append_assoc,List.drop_eq_getElem_cons h2]
   congr 2
   have h3:a.get! i=a.data.toList[i]:=by
    show a.data[i]! = _
    have h4:i < a.data.size:=h1
    rw [getElem!_pos a.data i h4]
    simp
   rw [h3]
   rfl
 unfold ByteArray.toList
 rw [key _ 0 [] rfl]
 simp
theorem vT {a b:ByteArray} (h:a.data.toList=b.data.toList):a=b:=by
 cases a; cases b
 simp only [ByteArray.mk.injEq]
 exact Array.toList_inj.1 h
theorem toList_inj {a b:ByteArray}:a.toList=b.toList↔a=b:=by
 rw [qX,qX]
 exact ⟨vT,fun h=>by rw [h]⟩
def sLt (a b:ByteArray):Prop:=Op.bytesLess a.toList b.toList=true
def sLe (a b:ByteArray):Prop:=sLt a b∨a=b
namespace Cnd
variable {p q:Prop}
theorem b {c:Bool}:Cnd c (c=true):=⟨Iff.rfl⟩
theorem tt:Cnd true True:=⟨by simp⟩
theorem ff:Cnd false False:=⟨by simp⟩
theorem dec [Decidable p]:Cnd (decide p) p:=⟨decide_eq_true_iff⟩
theorem eq {α:Type} [BEq α] [LawfulBEq α] {x y:α}:Cnd (x==y) (x=y):=⟨beq_iff_eq⟩
theorem ne {α:Type} [BEq α] [LawfulBEq α] {x y:α}:Cnd (x != y) (¬x=y):=⟨bne_iff_ne⟩
theorem seq {x y:ByteArray}:Cnd (x.toList==y.toList) (x=y):=⟨by rw [beq_iff_eq,toList_inj]⟩
theorem not {c:Bool} (h:Cnd c p):Cnd (!c) (¬(p)):=⟨by rw [← h.iff]; cases c <;> simp⟩
theorem and {b c:Bool} (h:Cnd b p) (k:Cnd c q):Cnd (b&&c) ((p)∧(q)):=⟨by rw [← h.iff,← k.iff,Bool.and_eq_true]⟩
theorem or {b c:Bool} (h:Cnd b p) (k:Cnd c q):Cnd (b || c) ((p)∨(q)):=⟨by rw [← h.iff,← k.iff,Bool.or_eq_true]⟩
theorem ix {i n:Int}:Cnd (decide ((0:Int)≤i)&&decide (i < n)) ((0:Int)≤i∧i < n):=⟨by simp⟩
theorem sl {l h n:Int}:Cnd (decide ((0:Int)≤l)&&decide (l≤h)&&decide (h≤n)&&(h==h)) ((0:Int)≤l∧l≤h∧h≤n):=⟨by simp [and_assoc]⟩
theorem sl4 {l h n m:Int}:Cnd (decide ((0:Int)≤l)&&decide (l≤h)&&decide (h≤n)&&(m==h)) ((0:Int)≤l∧l≤h∧h≤n∧m=h):=⟨by simp [and_assoc]⟩
theorem ss {l h n:Int}:Cnd (decide ((0:Int)≤l)&&decide (l≤h)&&decide (h≤n)) ((0:Int)≤l∧l≤h∧h≤n):=⟨by simp [and_assoc]⟩
theorem ble {x y:Nat}:Cnd (Nat.ble x y) (x≤y):=⟨by rw [Nat.ble_eq]⟩
theorem beq {x y:Nat}:Cnd (Nat.beq x y) (x=y):=⟨by rw [Nat.beq_eq]⟩
theorem sl_ {x y:ByteArray}:Cnd (Op.bytesLess x.toList y.toList) (sLt x y):=⟨Iff.rfl⟩
theorem sle {x y:ByteArray}:Cnd (Op.bytesLess x.toList y.toList || x.toList==y.toList) (sLe x y):=⟨by unfold sLe sLt; rw [Bool.or_eq_true,beq_iff_eq,toList_inj]⟩
end Cnd
theorem br {b:Bool} {c p q p' q':Prop} (h:(c→p')∧(¬(c)→q')) (hc:Cnd b c) (f:c→p'→p) (g:¬(c)→q'→q):Br b p q:=by
 cases b with
 | true=>exact f (hc.iff.1 rfl) (h.1 (hc.iff.1 rfl))
 | false =>
  have hn:¬c:=fun h=>by have:=hc.iff.2 h; cases this
  exact g hn (h.2 hn)
theorem chk {b:Bool} {c p p':Prop} (h2:p') (hc:Cnd b c) (h1:c) (f:c→p'→p):Br b p False:=by
 have:=hc.iff.2 h1
 subst this
 exact f h1 h2
theorem i9 {k:IntKind} {e:Int} (h:(if k.signed then -(2 ^ (k.bits - 1):Int) else 0)≤e) (h':e≤(if k.signed then (2 ^ (k.bits - 1):Int) else 2 ^ k.bits) - 1):k.wrap e=e:=by
 cases k <;> simp [IntKind.wrap,IntKind.signed,IntKind.bits] at h h' ⊢ <;> (try split) <;> omega
namespace wrapK
variable {e:Int} {T:Int→Prop} {V:Prop}
theorem i8 (h:-128≤e∧e≤127∧V) (f:-128≤e→e≤127→V→T e):Let (IntKind.i8.wrap e) T:=by
 unfold Let; rw [i9 (by unfold IntKind.signed IntKind.bits; simp; omega) (by unfold IntKind.signed IntKind.bits; simp; omega)]; exact f h.1 h.2.1 h.2.2
theorem i16 (h:-32768≤e∧e≤32767∧V) (f:-32768≤e→e≤32767→V→T e):Let (IntKind.i16.wrap e) T:=by
 unfold Let; rw [i9 (by unfold IntKind.signed IntKind.bits; simp; omega) (by unfold IntKind.signed IntKind.bits; simp; omega)]; exact f h.1 h.2.1 h.2.2
theorem i32 (h:-2147483648≤e∧e≤2147483647∧V) (f:-2147483648≤e→e≤2147483647→V→T e):Let (IntKind.i32.wrap e) T:=by
 unfold Let; rw [i9 (by unfold IntKind.signed IntKind.bits; simp; omega) (by unfold IntKind.signed IntKind.bits; simp; omega)]; exact f h.1 h.2.1 h.2.2
theorem i64 (h:-9223372036854775808≤e∧e≤9223372036854775807∧V) (f:-9223372036854775808≤e→e≤9223372036854775807→V→T e):Let (IntKind.i64.wrap e) T:=by
 unfold Let; rw [i9 (by unfold IntKind.signed IntKind.bits; simp; omega) (by unfold IntKind.signed IntKind.bits; simp; omega)]; exact f h.1 h.2.1 h.2.2
theorem u8 (h:0≤e∧e≤255∧V) (f:0≤e→e≤255→V→T e):Let (IntKind.u8.wrap e) T:=by
 unfold Let; rw [i9 (by unfold IntKind.signed IntKind.bits; simp; omega) (by unfold IntKind.signed IntKind.bits; simp; omega)]; exact f h.1 h.2.1 h.2.2
theorem u16 (h:0≤e∧e≤65535∧V) (f:0≤e→e≤65535→V→T e):Let (IntKind.u16.wrap e) T:=by
 unfold Let; rw [i9 (by unfold IntKind.signed IntKind.bits; simp; omega) (by unfold IntKind.signed IntKind.bits; simp; omega)]; exact f h.1 h.2.1 h.2.2
theorem u32 (h:0≤e∧e≤4294967295∧V) (f:0≤e→e≤4294967295→V→T e):Let (IntKind.u32.wrap e) T:=by
 unfold Let; rw [i9 (by unfold IntKind.signed IntKind.bits; simp; omega) (by unfold IntKind.signed IntKind.bits; simp; omega)]; exact f h.1 h.2.1 h.2.2
theorem u64 (h:0≤e∧e≤18446744073709551615∧V) (f:0≤e→e≤18446744073709551615→V→T e):Let (IntKind.u64.wrap e) T:=by
 unfold Let; rw [i9 (by unfold IntKind.signed IntKind.bits; simp; omega) (by unfold IntKind.signed IntKind.bits; simp; omega)]; exact f h.1 h.2.1 h.2.2
end wrapK
namespace wrapR
variable {e:Int} {T:Int→Prop}
theorem i64 (h:(0:Int)≤e∧e≤255) (t:T e):Let (IntKind.i64.wrap e) T:=wrapK.i64 (V:=True) ⟨by omega,by omega,trivial⟩ (fun _ _ _=>t)
theorem u64 (h:(0:Int)≤e∧e≤255) (t:T e):Let (IntKind.u64.wrap e) T:=wrapK.u64 (V:=True) ⟨by omega,by omega,trivial⟩ (fun _ _ _=>t)
theorem i32 (h:(0:Int)≤e∧e≤255) (t:T e):Let (IntKind.i32.wrap e) T:=wrapK.i32 (V:=True) ⟨by omega,by omega,trivial⟩ (fun _ _ _=>t)
theorem u32 (h:(0:Int)≤e∧e≤255) (t:T e):Let (IntKind.u32.wrap e) T:=wrapK.u32 (V:=True) ⟨by omega,by omega,trivial⟩ (fun _ _ _=>t)
end wrapR
theorem aBJ {x c:Int} {T:Int→Prop} (hc:0≤c) (t:T (x / c)):Let (Int.fdiv x c) T:=by
 unfold Let; rw [Int.fdiv_eq_ediv_of_nonneg _ hc]; exact t
namespace divK
variable {x y:Int} {T:Int→Prop}
theorem le (hx:0≤x) (hy:0 < y):0≤x / y∧x / y≤x:=⟨Int.ediv_nonneg hx (Int.le_of_lt hy),Int.ediv_le_self _ hx⟩
theorem i64 (hx:0≤x) (h:x≤9223372036854775807) (hy:0 < y) (t:T (x / y)):Let (IntKind.i64.wrap (Int.tdiv x y)) T:=by
 have:=le hx hy
 rw [Int.tdiv_eq_ediv_of_nonneg hx]
 exact wrapK.i64 (V:=True) ⟨by omega,by omega,trivial⟩ (fun _ _ _=>t)
theorem u64 (hx:0≤x) (h:x≤18446744073709551615) (hy:0 < y) (t:T (x / y)):Let (IntKind.u64.wrap (Int.tdiv x y)) T:=by
 have:=le hx hy
 rw [Int.tdiv_eq_ediv_of_nonneg hx]
 exact wrapK.u64 (V:=True) ⟨by omega,by omega,trivial⟩ (fun _ _ _=>t)
theorem u32 (hx:0≤x) (h:x≤4294967295) (hy:0 < y) (t:T (x / y)):Let (IntKind.u32.wrap (Int.tdiv x y)) T:=by
 have:=le hx hy
 rw [Int.tdiv_eq_ediv_of_nonneg hx]
 exact wrapK.u32 (V:=True) ⟨by omega,by omega,trivial⟩ (fun _ _ _=>t)
end divK
theorem gH {k b:Nat} (h:k≤1073741824) (hb:b≤131072):iD (k * b):=by
 have:k * b≤1073741824 * 131072:=Nat.mul_le_mul h hb
 unfold iD
 omega
theorem aDY {c:Int} {b:Nat} (h:c≤1073741824) (hb:b≤131072):iD (Int.toNat c * b):=gH (by omega) hb
def aIK (s:ByteArray) (n:Nat):Int:=((nth s.data.toList n 0).toNat:Int)
def at_ {α:Type} [Inhabited α] (l:List α) (i:Int):α:=l.getD i.toNat default
def mx (a b:Int):Int:=bif decide (a < b) then b else a
def by1 (c:Int):ByteArray:=⟨#[UInt8.ofNat c.toNat]⟩
def byz (n:Nat):ByteArray:=⟨(List.replicate n 0).toArray⟩
def aDN (b:ByteArray) (lo hi:Int):ByteArray:=b.extract lo.toNat hi.toNat
def aEE {α:Type} (l:List α) (lo hi:Int):List α:=(l.drop lo.toNat).take (hi - lo).toNat
def Rds {α:Type} [Inhabited α] (enc:α→List D) (n:Nat) (g:Nat→List D) (l:List α):Prop:=n=l.length∧∀ i,i < l.length→DEqs (g i) (gl enc l i)
def RdB (n:Nat) (g:Nat→List D) (b:ByteArray):Prop:=n=b.size∧∀ i,i < b.size→DEqs (g i) (nF b i)
namespace Rds
variable {α:Type} [Inhabited α] {enc:α→List D} {n m:Nat} {g h:Nat→List D} {l l':List α}
theorem self:Rds enc l.length (gl enc l) l:=⟨rfl,fun _ _=>DEqs.refl _⟩
theorem nil:Rds enc 0 g []:=⟨rfl,fun i h=>absurd h (Nat.not_lt_zero i)⟩
theorem one {cs:List D} {x:α} (h:DEqs cs (enc x)):Rds enc 1 (fun _=>cs) [x]:=⟨rfl,fun i hi=>by
 have:i=0:=by simp at hi; exact hi
 subst this
 exact h⟩
theorem eB (l l':List α) (i:Nat):(l++l').getD i default=if i < l.length then l.getD i default else l'.getD (i - l.length) default:=by
 simp only [List.getD_eq_getElem?_getD,List.getElem?_append]
 split <;> rfl
theorem rep {x:α}:Rds enc n (fun _=>enc x) (List.replicate n x):=⟨by simp,fun i hi=>by
 rw [List.length_replicate] at hi
 have:gl enc (List.replicate n x) i=enc x:=by simp [gl,List.getD_eq_getElem?_getD,hi]
 rw [this]
 exact DEqs.refl _⟩
theorem app (p:Rds enc n g l) (q:Rds enc m h l'):Rds enc (n+m) (eG g n h) (l++l'):=⟨by rw [p.1,q.1,List.length_append],fun i hi=>by
 rw [List.length_append] at hi
 have e:gl enc (l++l') i=if i < l.length then gl enc l i else gl enc l' (i - l.length):=by
  unfold gl
  rw [eB]
  split <;> rfl
 rw [e]
 unfold eG
 by_cases h1:i < n
 ·have:Nat.blt i n=true:=by rw [Nat.blt_eq]; exact h1
  rw [this,if_pos (by rw [← p.1]; exact h1)]
  exact p.2 i (by rw [← p.1]; exact h1)
 ·have:Nat.blt i n=false:=by rw [← Bool.not_eq_true,Nat.blt_eq]; exact h1
  rw [this,if_neg (by rw [← p.1]; exact h1),p.1]
  exact q.2 (i - l.length) (by rw [p.1] at h1; omega)⟩
theorem sub {lo hi:Int} (p:Rds enc n g l) (h:(0:Int)≤lo∧lo≤hi∧hi≤(n:Int)):Rds enc (Int.toNat (hi - lo)) (aDI g (Int.toNat lo)) (aEE l lo hi):=by
 have hn:=p.1
 refine ⟨by simp only [aEE,List.length_take,List.length_drop]; omega,fun i hi'=>?_⟩
 simp only [aEE,List.length_take,List.length_drop] at hi'
 have e:gl enc (aEE l lo hi) i=gl enc l (i+Int.toNat lo):=by
  unfold gl aEE
  simp only [List.getD_eq_getElem?_getD,List.getElem?_take,List.getElem?_drop]
  rw [if_pos (by omega),Nat.add_comm]
 rw [e]
 exact p.2 (i+Int.toNat lo) (by omega)
theorem to (p:Rds enc n g l) (h:l=l'):Rds enc n g l':=h ▸ p
theorem deq {t:Tag} {z:Nat} (p:Rds enc n g l):DEq (.slice t z n g) (.slice .ro z l.length (gl enc l)):=by
 obtain ⟨h1,h2⟩:=p
 subst h1
 exact .slice t .ro z _ g _ (.inr rfl) (fun i hi=>(h2 i hi).1) fun i hi=>(h2 i hi).2
theorem rowD (h:n=l.length) (e:∀ i,i < l.length→DEqs (g i) (gl enc l i)):Rds enc n g l:=⟨h,e⟩
theorem row (h:n=l.length∧∀ i,i < l.length→g i=gl enc l i):Rds enc n g l:=⟨h.1,fun i hi=>by rw [h.2 i hi]; exact DEqs.refl _⟩
end Rds
theorem rS {α:Type} [Inhabited α] (enc:α→List D) {l:List α}:Rds enc l.length (gl enc l) l:=Rds.self
abbrev wI:Int→Int:=IntKind.i64.wrap
theorem aFI {α:Type} (l m:List α) (d:α) (j:Nat):nth (l++m) j d=if j < l.length then nth l j d else nth m (j - l.length) d:=by
 induction l generalizing j with
 | nil=>simp
 | cons a l ih=>cases j with
  | zero=>simp [nth]
  | succ j=>simp only [List.cons_append,nth,ih,List.length_cons,Nat.add_lt_add_iff_right,Nat.add_sub_add_right]
theorem sF {α:Type} (l:List α) (d:α) (j:Nat):nth l j d=l.getD j d:=by
 induction l generalizing j with
 | nil=>simp [nth]
 | cons a l ih=>cases j with
  | zero=>simp [nth]
  | succ j=>simp [nth,ih]
theorem yN (a b:ByteArray):(a++b).size=a.size+b.size:=ByteArray.size_append
theorem aD2 (a b:ByteArray):(a++b).data.toList=a.data.toList++b.data.toList:=by rw [ByteArray.data_append,Array.toList_append]
namespace RdB
variable {n m:Nat} {g h:Nat→List D} {b b':ByteArray}
theorem self:RdB b.size (nF b) b:=⟨rfl,fun _ _=>DEqs.refl _⟩
theorem nil:RdB 0 g ByteArray.empty:=⟨rfl,fun i h=>absurd h (Nat.not_lt_zero i)⟩
theorem one {c:Int} (h:(0:Int)≤c∧c≤255):RdB 1 (fun _=>[.int .u8 c]) (by1 c):=⟨rfl,fun i hi=>by
 have:i=0:=by
  have h2:(by1 c).size=1:=rfl
  omega
 subst this
 have:nF (by1 c) 0=[.int .u8 c]:=by
  have e:((UInt8.ofNat c.toNat).toNat:Int)=c:=by
   rw [UInt8.toNat_ofNat']
   omega
  show [D.int .u8 ((UInt8.ofNat c.toNat).toNat:Int)]=_
  rw [e]
 rw [this]
 exact DEqs.refl _⟩
theorem xR:(byz n).size=n:=by simp [byz,ByteArray.size]
theorem rep:RdB n (fun _=>[.int .u8 0]) (byz n):=⟨xR.symm,fun i hi=>by
 rw [xR] at hi
 have:nF (byz n) i=[.int .u8 0]:=by
  show [D.int .u8 ((nth (byz n).data.toList i 0).toNat:Int)]=_
  rw [sF]
  simp [byz,List.getD_eq_getElem?_getD,hi]
 rw [this]
 exact DEqs.refl _⟩
theorem app (p:RdB n g b) (q:RdB m h b'):RdB (n+m) (eG g n h) (b++b'):=⟨by rw [p.1,q.1,yN],fun i hi=>by
 rw [yN] at hi
 have e:nF (b++b') i=if i < b.size then nF b i else nF b' (i - b.size):=by
  unfold nF
  rw [aD2,aFI,Array.length_toList]
  show _=if i < b.data.size then _ else [D.int .u8 ((nth b'.data.toList (i - b.data.size) 0).toNat:Int)]
  split <;> rfl
 rw [e]
 unfold eG
 by_cases h1:i < n
 ·have:Nat.blt i n=true:=by rw [Nat.blt_eq]; exact h1
  rw [this,if_pos (by rw [← p.1]; exact h1)]
  exact p.2 i (by rw [← p.1]; exact h1)
 ·have:Nat.blt i n=false:=by rw [← Bool.not_eq_true,Nat.blt_eq]; exact h1
  rw [this,if_neg (by rw [← p.1]; exact h1),p.1]
  exact q.2 (i - b.size) (by rw [p.1] at h1; omega)⟩
theorem aDT {lo hi:Int} (h:(0:Int)≤lo∧lo≤hi∧hi≤(b.size:Int)):(aDN b lo hi).size=Int.toNat (hi - lo):=by
 simp only [aDN,ByteArray.size_extract]
 omega
theorem sub {lo hi:Int} (p:RdB n g b) (h:(0:Int)≤lo∧lo≤hi∧hi≤(n:Int)):RdB (Int.toNat (hi - lo)) (aDI g (Int.toNat lo)) (aDN b lo hi):=by
 have hn:=p.1
 have hs:=aDT (b:=b) (lo:=lo) (hi:=hi) (by rw [← hn]; exact h)
 refine ⟨hs.symm,fun i hi'=>?_⟩
 rw [hs] at hi'
 have e:nF (aDN b lo hi) i=nF b (i+Int.toNat lo):=by
  unfold nF aDN
  rw [ByteArray.data_extract,sF,sF]
  simp only [List.getD_eq_getElem?_getD,Array.getElem?_toList,Array.getElem?_extract]
  have hb:b.data.size=b.size:=rfl
  rw [if_pos (by omega),Nat.add_comm]
 rw [e]
 exact p.2 (i+Int.toNat lo) (by omega)
theorem to (p:RdB n g b) (h:b=b'):RdB n g b':=h ▸ p
theorem deq {t:Tag} (p:RdB n g b):DEq (.slice t 1 n g) (.slice .ro 1 b.size (nF b)):=by
 obtain ⟨h1,h2⟩:=p
 subst h1
 exact .slice t .ro 1 _ g _ (.inr rfl) (fun i hi=>(h2 i hi).1) fun i hi=>(h2 i hi).2
theorem at_ (p:RdB n g b) {i:Nat} (hi:i < n):g i=[.int .u8 ((nth b.data.toList i 0).toNat:Int)]:=by
 have h1:=p.2 i (by rw [← p.1]; exact hi)
 have h2:(g i).length=1:=h1.1
 have h3:=h1.2 0
 match hg:g i,h2 with
 | [d],_ =>
  rw [hg] at h3
  have h4:DEq d (.int .u8 ((nth b.data.toList i 0).toNat:Int)):=h3
  cases h4
  rfl
theorem bytes (p:RdB n g b):aBB n g:=fun i hi=>⟨nth b.data.toList i 0,p.at_ hi⟩
theorem text (p:RdB n g b):s4 n g=b:=by
 have key:∀ k,k≤n→gP g k=b.data.toList.take k:=by
  intro k
  induction k with
  | zero=>intro _; simp [gP]
  | succ k ih =>
   intro hk
   have hlt:k < b.data.toList.length:=by rw [Array.length_toList]; show k < b.size; rw [← p.1]; omega
   rw [gP,ih (by omega),p.at_ (by omega),List.take_succ_eq_append_getElem hlt]
   congr 2
   show UInt8.ofNat (Int.toNat ((nth b.data.toList k 0).toNat:Int))=_
   rw [Int.toNat_natCast,UInt8.ofNat_toNat,cY _ _ hlt]
 apply vT
 show (gP g n).toArray.toList=_
 rw [key n (Nat.le_refl _),List.take_of_length_le (by rw [Array.length_toList]; show b.size≤n; rw [p.1]; exact Nat.le_refl _)]
end RdB
def SlQ (n m:Nat) (g h:Nat→List D) (k:Prop):Prop:=n=m∧(∀ i,i < m→DEqs (g i) (h i))∧k
def SlS {α:Type} [Inhabited α] (enc:α→List D) (l:List α) (k:Prop):Prop:=l.length=l.length∧(∀ i,i < l.length→DEqs (gl enc l i) (gl enc l i))∧k
theorem slQ {n m:Nat} {g h:Nat→List D} {k:Prop} (p:n=m∧∀ i,i < m→DEqs (g i) (h i)) (r:k):SlQ n m g h k:=⟨p.1,p.2,r⟩
theorem SlS.mk {α:Type} [Inhabited α] {enc:α→List D} {l:List α} {k:Prop} (r:k):SlS enc l k:=⟨rfl,fun _ _=>DEqs.refl _,r⟩
def ts:List Nat→List AX
 | []=>[]
 | x::l=>.t x::ts l
def oT (d i:Nat) (op:AOp) (xs:List Nat):AO:=⟨some d,i,op,ts xs,none⟩
def oR (d i:Nat) (op:AOp) (xs:List Nat):AO:=⟨some d,1000000+i,op,ts xs,none⟩
def oG (d i:Nat) (op:AOp) (xs:List Nat) (j:Nat) (w:Bool):AO:=⟨some d,i,op,ts xs,some (j,w)⟩
theorem rG {p q k:Prop} (h:p∧q) (f:p→q→k):k:=f h.1 h.2
theorem Rds.gset {α:Type} [Inhabited α] {enc:α→List D} {n:Nat} {g:Nat→List D} {l:List α} {i:Nat} {cs:List D} {x:α} (p:Rds enc n g l) (h:DEqs cs (enc x)):Rds enc n (gset g i cs) (List.set l i x) :=
 ⟨by rw [p.1,List.length_set],fun j hj=>by
  rw [List.length_set] at hj
  unfold Abs.gset gl
  cases hb:Nat.beq j i with
  | true =>
   have:=Nat.eq_of_beq_eq_true hb
   subst this
   simp only [cond_true,List.getD_eq_getElem?_getD,List.getElem?_set_self hj,Option.getD_some]
   exact h
  | false =>
   have hne:i≠j:=fun e=>by rw [e,Nat.beq_refl] at hb; cases hb
   simp only [cond_false,List.getD_eq_getElem?_getD,List.getElem?_set_ne hne]
   have:=p.2 j hj
   unfold gl at this
   rw [List.getD_eq_getElem?_getD] at this
   exact this⟩
theorem bP {α:Type} [Inhabited α] {enc:α→List D} (g:Nat→List D) {n:Nat} {l:List α} (h:Rds enc n g l):n=l.length:=h.1
theorem b2s {n:Nat} {g:Nat→List D} {b:ByteArray} {V:Prop} {T:ByteArray→Prop} (h:V) (p:RdB n g b) (f:V→T b):aBB n g∧Let (s4 n g) T :=
 ⟨p.bytes,by unfold Let; rw [p.text]; exact f h⟩
def mks {α:Type} [Inhabited α] (l:List (ByteArray×α)):Nat→ByteArray:=fun i=>(l.getD i default).1
def mvs {α:Type} [Inhabited α] (enc:α→List D) (l:List (ByteArray×α)):Nat→List D:=fun i=>enc (l.getD i default).2
def iT {α:Type} [Inhabited α] (l:List (ByteArray×α)) (k:ByteArray):Bool:=decide (mpF (mks l) k l.length < l.length)
def mat {α:Type} [Inhabited α] (l:List (ByteArray×α)) (k:ByteArray):α:=(l.getD (mpF (mks l) k l.length) default).2
def dN {α:Type}:List (ByteArray×α)→ByteArray→α→List (ByteArray×α)
 | [],k,v=>[(k,v)]
 | (a,b)::l,k,v=>if a=k then (k,v)::l else (a,b)::dN l k v
def Mds {α:Type} [Inhabited α] (enc:α→List D) (n:Nat) (ks:Nat→ByteArray) (vs:Nat→List D) (l:List (ByteArray×α)):Prop :=
 n=l.length∧(∀ i,i < l.length→ks i=mks l i)∧∀ i,i < l.length→DEqs (vs i) (mvs enc l i)
theorem aBH (ks:Nat→ByteArray) (key:ByteArray):∀ n,mpF ks key n≤n
 | 0=>Nat.le_refl _
 | n+1=>by
  simp only [mpF]
  have:=aBH ks key n
  split
  ·omega
  ·split <;> omega
theorem yH {ks ks':Nat→ByteArray} (key:ByteArray):∀ n,(∀ i,i < n→ks i=ks' i)→mpF ks key n=mpF ks' key n
 | 0,_=>rfl
 | n+1,h=>by
  simp only [mpF,yH key n fun i hi=>h i (by omega),h n (by omega)]
theorem lT {α:Type} [Inhabited α] (a:ByteArray) (b:α) (l:List (ByteArray×α)) (k:ByteArray):∀ n,mpF (mks ((a,b)::l)) k (n+1)=if a=k then 0 else mpF (mks l) k n+1
 | 0=>by
  simp only [mpF,mks,List.getD_cons_zero]
  split <;> simp_all
 | n+1=>by
  rw [mpF,lT a b l k n]
  by_cases h:a=k
  ·simp [h]
  ·simp only [if_neg h]
   show (if mpF (mks l) k n+1 < n+1 then mpF (mks l) k n+1 else if mks ((a,b)::l) (n+1)=k then n+1 else n+1+1)=mpF (mks l) k (n+1)+1
   rw [mpF]
   have:mks ((a,b)::l) (n+1)=mks l n:=by simp [mks]
   rw [this]
   by_cases h1:mpF (mks l) k n < n
   ·rw [if_pos (by omega),if_pos h1]
   ·rw [if_neg (by omega),if_neg h1]
    split <;> rfl
theorem mL {α:Type} [Inhabited α] (k:ByteArray) (v:α):∀ l:List (ByteArray×α),(dN l k v).length=mpN (mks l) k l.length
 | []=>by simp [dN,mpN,mpF]
 | (a,b)::l=>by
  simp only [dN,mpN,List.length_cons,lT]
  by_cases h:a=k
  ·simp [h]
  ·simp only [if_neg h,List.length_cons,mL k v l,mpN,Nat.add_lt_add_iff_right]
   split <;> rfl
theorem v5 {α:Type} [Inhabited α] (k:ByteArray) (v:α):∀ (l:List (ByteArray×α)) (i:Nat),i < (dN l k v).length→(dN l k v).getD i default=if i=mpF (mks l) k l.length then (k,v) else l.getD i default
 | [],i,h=>by
  have:i=0:=by simpa [dN] using h
  subst this
  simp [dN,mpF]
 | (a,b)::l,i,h=>by
  simp only [dN] at h ⊢
  rw [List.length_cons,lT]
  by_cases ha:a=k
  ·rw [if_pos ha] at h ⊢
   rw [if_pos ha]
   cases i with
   | zero=>simp
   | succ i=>simp
  ·rw [if_neg ha] at h ⊢
   rw [if_neg ha]
   cases i with
   | zero=>simp
   | succ i =>
    simp only [List.getD_cons_succ,Nat.add_right_cancel_iff]
    exact v5 k v l i (by simpa using h)
namespace Mds
variable {α:Type} [Inhabited α] {enc:α→List D} {n:Nat} {ks:Nat→ByteArray} {vs:Nat→List D} {l l':List (ByteArray×α)}
theorem self:Mds enc l.length (mks l) (mvs enc l) l:=⟨rfl,fun _ _=>rfl,fun _ _=>DEqs.refl _⟩
theorem nil:Mds enc 0 ks vs []:=⟨rfl,fun i h=>absurd h (Nat.not_lt_zero i),fun i h=>absurd h (Nat.not_lt_zero i)⟩
theorem set {cs:List D} {k:ByteArray} {x:α} (p:Mds enc n ks vs l) (h:DEqs cs (enc x)):Mds enc (mpN ks k n) (iV ks k n) (gW ks vs k cs n) (dN l k x):=by
 obtain ⟨rfl,p2,p3⟩:=p
 have hf:mpF ks k l.length=mpF (mks l) k l.length:=yH k _ p2
 have hlen:mpN ks k l.length=(dN l k x).length:=by rw [mL,mpN,mpN,hf]
 have hub:=aBH (mks l) k l.length
 have hnew:∀ i,i < (dN l k x).length→i≠mpF (mks l) k l.length→i < l.length:=fun i hi hne=>by
  rw [mL,mpN] at hi
  split at hi <;> omega
 refine ⟨hlen,fun i hi=>?_,fun i hi=>?_⟩
 ·show iV ks k l.length i=((dN l k x).getD i default).1
  rw [v5 k x l i hi,iV,hf]
  split
  ·rfl
  ·rename_i hne
   exact p2 i (hnew i hi hne)
 ·show DEqs (gW ks vs k cs l.length i) (enc ((dN l k x).getD i default).2)
  rw [v5 k x l i hi,gW,hf]
  split
  ·exact h
  ·rename_i hne
   exact p3 i (hnew i hi hne)
theorem to (p:Mds enc n ks vs l) (h:l=l'):Mds enc n ks vs l':=h ▸ p
end Mds
theorem mpK {p q r k:Prop} (h:p∧q∧r) (x:k):p∧q∧r∧k:=⟨h.1,h.2.1,h.2.2,x⟩
def be:Nat→Nat→List UInt8
 | 0,_=>[]
 | k+1,n=>be k (n / 256)++[UInt8.ofNat n]
def val (b:ByteArray) (i:Nat):Nat→Int
 | 0=>0
 | k+1=>val b i k * 256+aIK b (i+k)
def U64 (n:Int):Prop:=0≤n∧n≤18446744073709551615
theorem U64.lt {n:Int} (h:U64 n):n.toNat < 2 ^ 64:=by obtain ⟨h1,h2⟩:=h; omega
def aIO:Codec (Int):=yB .u64
def aC (x:Int):List D:=[.int .i64 x]
def eO:Codec (Int):=yB .i64
def eP:Codec (ByteArray):=aEV
def aIQ:Codec (Int):=yB .u8
def aIP:Codec (Int):=yB .i32
def aHW:Codec (Bool):=yD
abbrev jF:Type:=ByteArray×ByteArray
def bO (x:jF):List D:=[.str x.1,.str x.2]
def qL:Codec (jF):=nH (bM eP eP)
def iN:Codec (List (jF)):=eJ qL
abbrev dX:Type:=Int×Int×Int
def cZ:Codec (dX):=nH (bM eO (bM eO eO))
abbrev r8:Type:=ByteArray×ByteArray×Int×dX×(List (jF))×ByteArray×ByteArray×Int
def nT:Codec (r8):=nH (bM eP (bM eP (bM eO (bM cZ (bM iN (bM eP (bM eP eO)))))))
def aFC:Codec (List (dX)):=eJ cZ
abbrev aB:Type:=r8×Int×ByteArray×Int
def aD (x:aB):List D:=[.str x.1.1,.str x.1.2.1,.int .i64 x.1.2.2.1,.int .i64 x.1.2.2.2.1.1,.int .i64 x.1.2.2.2.1.2.1,.int .i64 x.1.2.2.2.1.2.2,.slice .ro 2 x.1.2.2.2.2.1.length (gl bO x.1.2.2.2.2.1),.str x.1.2.2.2.2.2.1,.str x.1.2.2.2.2.2.2.1,.int .i64 x.1.2.2.2.2.2.2.2,.int .i64 x.2.1,.str x.2.2.1,.int .i64 x.2.2.2]
def mP:Codec (aB):=nH (bM nT (bM eO (bM eP eO)))
def fK:Codec (List (aB)):=eJ mP
def aL (x:List (Int)):List D:=[.slice .ro 1 x.length (gl aC x)]
def yX:Codec (List (Int)):=eJ eO
abbrev gX:Type:=ByteArray×Int×Int×dX
def xC:Codec (gX):=nH (bM eP (bM eO (bM eO cZ)))
def lE:Codec (List (gX)):=eJ xC
abbrev uC:Type:=ByteArray×dX×dX×(List (gX))
def aE1:Codec (uC):=nH (bM eP (bM cZ (bM cZ lE)))
abbrev uP:Type:=ByteArray×dX×(List (gX))
def aE0:Codec (uP):=nH (bM eP (bM cZ lE))
abbrev s8:Type:=ByteArray×dX
def aEI:Codec (s8):=nH (bM eP cZ)
abbrev dK:Type:=ByteArray×Int×Int×dX
def jX:Codec (dK):=nH (bM eP (bM eO (bM eO cZ)))
def iW:Codec (List (dK)):=eJ jX
abbrev eQ:Type:=ByteArray×(Int×Int×Int)×dX×(List (dK))
def jM:Codec (eQ):=nH (bM eP (bM cZ (bM cZ iW)))
def rP:Codec (List (eQ)):=eJ jM
def aGB:Codec (List (List (Int))):=eJ yX
abbrev aH:Type:=Int×(List (Int))
def aF (x:aH):List D:=[.int .i64 x.1,.slice .ro 1 x.2.length (gl aC x.2)]
def aFK:Codec (aH):=nH (bM eO yX)
set_option linter.unusedVariables false
end Go.Abs
