/- Functions, and what the code asks of them: PPack. -/
import Derived.KernelRfl
import Derived.Test.YtcmjinkfgbadoabLabelsNilP3
set_option maxRecDepth 100000
set_option maxHeartbeats 4000000
set_option linter.unusedVariables false
set_option linter.unusedSimpArgs false
set_option linter.unusedSectionVars false
namespace Go.Abs
open Go
def cD {α:Type} (_:α):Bool:=true
def Let {α:Type} (v:α) (T:α→Prop):Prop:=T v
structure Cnd (b:Bool) (p:Prop):Prop where
 iff:b=true↔p
theorem tL (a:ByteArray):a.toList=a.data.toList:=by
 have key:∀ (n i:Nat) (r:List UInt8),a.size - i=n→ByteArray.toList.loop a i r=r.reverse++a.data.toList.drop i:=by
  intro n
  induction n with
  | zero =>
   intro i r h
   rw [ByteArray.toList.loop]
   have h1:¬i < a.size:=by omega
   rw [if_neg h1,List.drop_eq_nil_of_le (by rw [Array.length_toList]; show a.size≤i; omega),List.append_nil]
  | succ n ih =>
   intro i r h
   rw [ByteArray.toList.loop]
   have h1:i < a.size:=by omega
   have h2:i < a.data.toList.length:=by rw [Array.length_toList]; exact h1
   rw [if_pos h1,ih (i+1) _ (by omega),List.reverse_cons,List.append_assoc,List.drop_eq_getElem_cons h2]
   congr 2
   have h3:a.get! i=a.data.toList[i]:=by
    show a.data[i]! = _
    have h4:i < a.data.size:=h1
    rw [getElem!_pos a.data i h4]
    simp
   rw [h3]
   rfl
 unfold ByteArray.toList
 rw [key _ 0 [] rfl]
 simp
theorem zG {a b:ByteArray} (h:a.data.toList=b.data.toList):a=b:=by
 cases a; cases b
 simp only [ByteArray.mk.injEq]
 exact Array.toList_inj.1 h
theorem toList_inj {a b:ByteArray}:a.toList=b.toList↔a=b:=by
 rw [tL,tL]
 exact ⟨zG,fun h=>by rw [h]⟩
def sLt (a b:ByteArray):Prop:=Op.bytesLess a.toList b.toList=true
def sLe (a b:ByteArray):Prop:=sLt a b∨a=b
namespace Cnd
variable {p q:Prop}
theorem b {c:Bool}:Cnd c (c=true):=⟨Iff.rfl⟩
theorem tt:Cnd true True:=⟨by simp⟩
theorem ff:Cnd false False:=⟨by simp⟩
theorem dec [Decidable p]:Cnd (decide p) p:=⟨decide_eq_true_iff⟩
theorem eq {α:Type} [BEq α] [LawfulBEq α] {x y:α}:Cnd (x==y) (x=y):=⟨beq_iff_eq⟩
theorem ne {α:Type} [BEq α] [LawfulBEq α] {x y:α}:Cnd (x != y) (¬x=y):=⟨bne_iff_ne⟩
theorem seq {x y:ByteArray}:Cnd (x.toList==y.toList) (x=y):=⟨by rw [beq_iff_eq,toList_inj]⟩
theorem not {c:Bool} (h:Cnd c p):Cnd (!c) (¬(p)):=⟨by rw [← h.iff]; cases c <;> simp⟩
theorem and {b c:Bool} (h:Cnd b p) (k:Cnd c q):Cnd (b&&c) ((p)∧(q)):=⟨by rw [← h.iff,← k.iff,Bool.and_eq_true]⟩
theorem or {b c:Bool} (h:Cnd b p) (k:Cnd c q):Cnd (b || c) ((p)∨(q)):=⟨by rw [← h.iff,← k.iff,Bool.or_eq_true]⟩
theorem ix {i n:Int}:Cnd (decide ((0:Int)≤i)&&decide (i < n)) ((0:Int)≤i∧i < n):=⟨by simp⟩
theorem sl {l h n:Int}:Cnd (decide ((0:Int)≤l)&&decide (l≤h)&&decide (h≤n)&&(h==h)) ((0:Int)≤l∧l≤h∧h≤n):=⟨by simp [and_assoc]⟩
theorem sl4 {l h n m:Int}:Cnd (decide ((0:Int)≤l)&&decide (l≤h)&&decide (h≤n)&&(m==h)) ((0:Int)≤l∧l≤h∧h≤n∧m=h):=⟨by simp [and_assoc]⟩
theorem ss {l h n:Int}:Cnd (decide ((0:Int)≤l)&&decide (l≤h)&&decide (h≤n)) ((0:Int)≤l∧l≤h∧h≤n):=⟨by simp [and_assoc]⟩
theorem ble {x y:Nat}:Cnd (Nat.ble x y) (x≤y):=⟨by rw [Nat.ble_eq]⟩
theorem beq {x y:Nat}:Cnd (Nat.beq x y) (x=y):=⟨by rw [Nat.beq_eq]⟩
theorem sl_ {x y:ByteArray}:Cnd (Op.bytesLess x.toList y.toList) (sLt x y):=⟨Iff.rfl⟩
theorem sle {x y:ByteArray}:Cnd (Op.bytesLess x.toList y.toList || x.toList==y.toList) (sLe x y):=⟨by unfold sLe sLt; rw [Bool.or_eq_true,beq_iff_eq,toList_inj]⟩
end Cnd
theorem br {b:Bool} {c p q p' q':Prop} (h:(c→p')∧(¬(c)→q')) (hc:Cnd b c) (f:c→p'→p) (g:¬(c)→q'→q):Br b p q:=by
 cases b with
 | true=>exact f (hc.iff.1 rfl) (h.1 (hc.iff.1 rfl))
 | false =>
  have hn:¬c:=fun h=>by have:=hc.iff.2 h; cases this
  exact g hn (h.2 hn)
theorem chk {b:Bool} {c p p':Prop} (h2:p') (hc:Cnd b c) (h1:c) (f:c→p'→p):Br b p False:=by
 have:=hc.iff.2 h1
 subst this
 exact f h1 h2
theorem hH {k:IntKind} {e:Int} (h:(if k.signed then -(2 ^ (k.bits - 1):Int) else 0)≤e) (h':e≤(if k.signed then (2 ^ (k.bits - 1):Int) else 2 ^ k.bits) - 1):k.wrap e=e:=by
 cases k <;> simp [IntKind.wrap,IntKind.signed,IntKind.bits] at h h' ⊢ <;> (try split) <;> omega
namespace wrapK
variable {e:Int} {T:Int→Prop} {V:Prop}
theorem i8 (h:-128≤e∧e≤127∧V) (f:-128≤e→e≤127→V→T e):Let (IntKind.i8.wrap e) T:=by
 unfold Let; rw [hH (by unfold IntKind.signed IntKind.bits; simp; omega) (by unfold IntKind.signed IntKind.bits; simp; omega)]; exact f h.1 h.2.1 h.2.2
theorem i16 (h:-32768≤e∧e≤32767∧V) (f:-32768≤e→e≤32767→V→T e):Let (IntKind.i16.wrap e) T:=by
 unfold Let; rw [hH (by unfold IntKind.signed IntKind.bits; simp; omega) (by unfold IntKind.signed IntKind.bits; simp; omega)]; exact f h.1 h.2.1 h.2.2
theorem i32 (h:-2147483648≤e∧e≤2147483647∧V) (f:-2147483648≤e→e≤2147483647→V→T e):Let (IntKind.i32.wrap e) T:=by
 unfold Let; rw [hH (by unfold IntKind.signed IntKind.bits; simp; omega) (by unfold IntKind.signed IntKind.bits; simp; omega)]; exact f h.1 h.2.1 h.2.2
theorem i64 (h:-9223372036854775808≤e∧e≤9223372036854775807∧V) (f:-9223372036854775808≤e→e≤9223372036854775807→V→T e):Let (IntKind.i64.wrap e) T:=by
 unfold Let; rw [hH (by unfold IntKind.signed IntKind.bits; simp; omega) (by unfold IntKind.signed IntKind.bits; simp; omega)]; exact f h.1 h.2.1 h.2.2
theorem u8 (h:0≤e∧e≤255∧V) (f:0≤e→e≤255→V→T e):Let (IntKind.u8.wrap e) T:=by
 unfold Let; rw [hH (by unfold IntKind.signed IntKind.bits; simp; omega) (by unfold IntKind.signed IntKind.bits; simp; omega)]; exact f h.1 h.2.1 h.2.2
theorem u16 (h:0≤e∧e≤65535∧V) (f:0≤e→e≤65535→V→T e):Let (IntKind.u16.wrap e) T:=by
 unfold Let; rw [hH (by unfold IntKind.signed IntKind.bits; simp; omega) (by unfold IntKind.signed IntKind.bits; simp; omega)]; exact f h.1 h.2.1 h.2.2
theorem u32 (h:0≤e∧e≤4294967295∧V) (f:0≤e→e≤4294967295→V→T e):Let (IntKind.u32.wrap e) T:=by
 unfold Let; rw [hH (by unfold IntKind.signed IntKind.bits; simp; omega) (by unfold IntKind.signed IntKind.bits; simp; omega)]; exact f h.1 h.2.1 h.2.2
theorem u64 (h:0≤e∧e≤18446744073709551615∧V) (f:0≤e→e≤18446744073709551615→V→T e):Let (IntKind.u64.wrap e) T:=by
 unfold Let; rw [hH (by unfold IntKind.signed IntKind.bits; simp; omega) (by unfold IntKind.signed IntKind.bits; simp; omega)]; exact f h.1 h.2.1 h.2.2
end wrapK
namespace wrapR
variable {e:Int} {T:Int→Prop}
theorem i64 (h:(0:Int)≤e∧e≤255) (t:T e):Let (IntKind.i64.wrap e) T:=wrapK.i64 (V:=True) ⟨by omega,by omega,trivial⟩ (fun _ _ _=>t)
theorem u64 (h:(0:Int)≤e∧e≤255) (t:T e):Let (IntKind.u64.wrap e) T:=wrapK.u64 (V:=True) ⟨by omega,by omega,trivial⟩ (fun _ _ _=>t)
theorem i32 (h:(0:Int)≤e∧e≤255) (t:T e):Let (IntKind.i32.wrap e) T:=wrapK.i32 (V:=True) ⟨by omega,by omega,trivial⟩ (fun _ _ _=>t)
theorem u32 (h:(0:Int)≤e∧e≤255) (t:T e):Let (IntKind.u32.wrap e) T:=wrapK.u32 (V:=True) ⟨by omega,by omega,trivial⟩ (fun _ _ _=>t)
end wrapR
theorem tO {x c:Int} {T:Int→Prop} (hc:0≤c) (t:T (x / c)):Let (Int.fdiv x c) T:=by
 unfold Let; rw [Int.fdiv_eq_ediv_of_nonneg _ hc]; exact t
namespace divK
variable {x y:Int} {T:Int→Prop}
theorem le (hx:0≤x) (hy:0 < y):0≤x / y∧x / y≤x:=⟨Int.ediv_nonneg hx (Int.le_of_lt hy),Int.ediv_le_self _ hx⟩
theorem i64 (hx:0≤x) (h:x≤9223372036854775807) (hy:0 < y) (t:T (x / y)):Let (IntKind.i64.wrap (Int.tdiv x y)) T:=by
 have:=le hx hy
 rw [Int.tdiv_eq_ediv_of_nonneg hx]
 exact wrapK.i64 (V:=True) ⟨by omega,by omega,trivial⟩ (fun _ _ _=>t)
theorem u64 (hx:0≤x) (h:x≤18446744073709551615) (hy:0 < y) (t:T (x / y)):Let (IntKind.u64.wrap (Int.tdiv x y)) T:=by
 have:=le hx hy
 rw [Int.tdiv_eq_ediv_of_nonneg hx]
 exact wrapK.u64 (V:=True) ⟨by omega,by omega,trivial⟩ (fun _ _ _=>t)
theorem u32 (hx:0≤x) (h:x≤4294967295) (hy:0 < y) (t:T (x / y)):Let (IntKind.u32.wrap (Int.tdiv x y)) T:=by
 have:=le hx hy
 rw [Int.tdiv_eq_ediv_of_nonneg hx]
 exact wrapK.u32 (V:=True) ⟨by omega,by omega,trivial⟩ (fun _ _ _=>t)
end divK
theorem aBE {k b:Nat} (h:k≤1073741824) (hb:b≤131072):t8 (k * b):=by
 have:k * b≤1073741824 * 131072:=Nat.mul_le_mul h hb
 unfold t8
 omega
def aN6 (s:ByteArray) (n:Nat):Int:=((nth s.data.toList n 0).toNat:Int)
def bAt (s:ByteArray) (i:Int):Int:=((nth s.data.toList i.toNat 0).toNat:Int)
def at_ {α:Type} [Inhabited α] (l:List α) (i:Int):α:=l.getD i.toNat default
def mx (a b:Int):Int:=bif decide (a < b) then b else a
def by1 (c:Int):ByteArray:=⟨#[UInt8.ofNat c.toNat]⟩
def byz (n:Nat):ByteArray:=⟨(List.replicate n 0).toArray⟩
def aJX (b:ByteArray) (lo hi:Int):ByteArray:=b.extract lo.toNat hi.toNat
def xD {α:Type} (l:List α) (lo hi:Int):List α:=(l.drop lo.toNat).take (hi - lo).toNat
def Rds {α:Type} [Inhabited α] (enc:α→List D) (n:Nat) (g:Nat→List D) (l:List α):Prop:=n=l.length∧∀ i,i < l.length→DEqs (g i) (gl enc l i)
def RdB (n:Nat) (g:Nat→List D) (b:ByteArray):Prop:=n=b.size∧∀ i,i < b.size→DEqs (g i) (o7 b i)
namespace Rds
variable {α:Type} [Inhabited α] {enc:α→List D} {n m:Nat} {g h:Nat→List D} {l l':List α}
theorem self:Rds enc l.length (gl enc l) l:=⟨rfl,fun _ _=>DEqs.refl _⟩
theorem nil:Rds enc 0 g []:=⟨rfl,fun i h=>absurd h (Nat.not_lt_zero i)⟩
theorem one {cs:List D} {x:α} (h:DEqs cs (enc x)):Rds enc 1 (fun _=>cs) [x]:=⟨rfl,fun i hi=>by
 have:i=0:=by simp at hi; exact hi
 subst this
 exact h⟩
theorem kR (l l':List α) (i:Nat):(l++l').getD i default=if i < l.length then l.getD i default else l'.getD (i - l.length) default:=by
 simp only [List.getD_eq_getElem?_getD,List.getElem?_append]
 split <;> rfl
theorem rep {x:α}:Rds enc n (fun _=>enc x) (List.replicate n x):=⟨by simp,fun i hi=>by
 rw [List.length_replicate] at hi
 have:gl enc (List.replicate n x) i=enc x:=by simp [gl,List.getD_eq_getElem?_getD,hi]
 rw [this]
 exact DEqs.refl _⟩
theorem app (p:Rds enc n g l) (q:Rds enc m h l'):Rds enc (n+m) (i9 g n h) (l++l'):=⟨by rw [p.1,q.1,List.length_append],fun i hi=>by
 rw [List.length_append] at hi
 have e:gl enc (l++l') i=if i < l.length then gl enc l i else gl enc l' (i - l.length):=by
  unfold gl
  rw [kR]
  split <;> rfl
 rw [e]
 unfold i9
 by_cases h1:i < n
 ·have:Nat.blt i n=true:=by rw [Nat.blt_eq]; exact h1
  rw [this,if_pos (by rw [← p.1]; exact h1)]
  exact p.2 i (by rw [← p.1]; exact h1)
 ·have:Nat.blt i n=false:=by rw [← Bool.not_eq_true,Nat.blt_eq]; exact h1
  rw [this,if_neg (by rw [← p.1]; exact h1),p.1]
  exact q.2 (i - l.length) (by rw [p.1] at h1; omega)⟩
theorem sub {lo hi:Int} (p:Rds enc n g l) (h:(0:Int)≤lo∧lo≤hi∧hi≤(n:Int)):Rds enc (Int.toNat (hi - lo)) (aHS g (Int.toNat lo)) (xD l lo hi):=by
 have hn:=p.1
 refine ⟨by simp only [xD,List.length_take,List.length_drop]; omega,fun i hi'=>?_⟩
 simp only [xD,List.length_take,List.length_drop] at hi'
 have e:gl enc (xD l lo hi) i=gl enc l (i+Int.toNat lo):=by
  unfold gl xD
  simp only [List.getD_eq_getElem?_getD,List.getElem?_take,List.getElem?_drop]
  rw [if_pos (by omega),Nat.add_comm]
 rw [e]
 exact p.2 (i+Int.toNat lo) (by omega)
theorem to (p:Rds enc n g l) (h:l=l'):Rds enc n g l':=h ▸ p
theorem deq {t:Tag} {z:Nat} (p:Rds enc n g l):DEq (.slice t z n g) (.slice .ro z l.length (gl enc l)):=by
 obtain ⟨h1,h2⟩:=p
 subst h1
 exact .slice t .ro z _ g _ (.inr rfl) (fun i hi=>(h2 i hi).1) fun i hi=>(h2 i hi).2
theorem aOI (h:n=l.length) (e:∀ i,i < l.length→DEqs (g i) (gl enc l i)):Rds enc n g l:=⟨h,e⟩
theorem row (h:n=l.length∧∀ i,i < l.length→g i=gl enc l i):Rds enc n g l:=⟨h.1,fun i hi=>by rw [h.2 i hi]; exact DEqs.refl _⟩
end Rds
theorem rS {α:Type} [Inhabited α] (enc:α→List D) {l:List α}:Rds enc l.length (gl enc l) l:=Rds.self
abbrev wI:Int→Int:=IntKind.i64.wrap
theorem u8r (x:UInt8):(0:Int)≤(x.toNat:Int)∧(x.toNat:Int)≤255:=⟨by omega,by have:=x.toNat_lt; omega⟩
theorem u8w (e:Int):(0:Int)≤IntKind.u8.wrap e∧IntKind.u8.wrap e≤255:=by simp [IntKind.wrap,IntKind.signed,IntKind.bits]; omega
theorem u8b (s:ByteArray) (i:Int):(0:Int)≤bAt s i∧bAt s i≤255:=u8r _
theorem aLL {α:Type} (l m:List α) (d:α) (j:Nat):nth (l++m) j d=if j < l.length then nth l j d else nth m (j - l.length) d:=by
 induction l generalizing j with
 | nil=>simp
 | cons a l ih=>cases j with
  | zero=>simp [nth]
  | succ j=>simp only [List.cons_append,nth,ih,List.length_cons,Nat.add_lt_add_iff_right,Nat.add_sub_add_right]
theorem vZ {α:Type} (l:List α) (d:α) (j:Nat):nth l j d=l.getD j d:=by
 induction l generalizing j with
 | nil=>simp [nth]
 | cons a l ih=>cases j with
  | zero=>simp [nth]
  | succ j=>simp [nth,ih]
theorem aCZ (a b:ByteArray):(a++b).size=a.size+b.size:=ByteArray.size_append
theorem aJW (a b:ByteArray):(a++b).data.toList=a.data.toList++b.data.toList:=by rw [ByteArray.data_append,Array.toList_append]
namespace RdB
variable {n m:Nat} {g h:Nat→List D} {b b':ByteArray}
theorem self:RdB b.size (o7 b) b:=⟨rfl,fun _ _=>DEqs.refl _⟩
theorem nil:RdB 0 g ByteArray.empty:=⟨rfl,fun i h=>absurd h (Nat.not_lt_zero i)⟩
theorem one {c:Int} (h:(0:Int)≤c∧c≤255):RdB 1 (fun _=>[.int .u8 c]) (by1 c):=⟨rfl,fun i hi=>by
 have:i=0:=by
  have h2:(by1 c).size=1:=rfl
  omega
 subst this
 have:o7 (by1 c) 0=[.int .u8 c]:=by
  have e:((UInt8.ofNat c.toNat).toNat:Int)=c:=by
   rw [UInt8.toNat_ofNat']
   omega
  show [D.int .u8 ((UInt8.ofNat c.toNat).toNat:Int)]=_
  rw [e]
 rw [this]
 exact DEqs.refl _⟩
theorem aC6:(byz n).size=n:=by simp [byz,ByteArray.size]
theorem rep:RdB n (fun _=>[.int .u8 0]) (byz n):=⟨aC6.symm,fun i hi=>by
 rw [aC6] at hi
 have:o7 (byz n) i=[.int .u8 0]:=by
  show [D.int .u8 ((nth (byz n).data.toList i 0).toNat:Int)]=_
  rw [vZ]
  simp [byz,List.getD_eq_getElem?_getD,hi]
 rw [this]
 exact DEqs.refl _⟩
theorem app (p:RdB n g b) (q:RdB m h b'):RdB (n+m) (i9 g n h) (b++b'):=⟨by rw [p.1,q.1,aCZ],fun i hi=>by
 rw [aCZ] at hi
 have e:o7 (b++b') i=if i < b.size then o7 b i else o7 b' (i - b.size):=by
  unfold o7
  rw [aJW,aLL,Array.length_toList]
  show _=if i < b.data.size then _ else [D.int .u8 ((nth b'.data.toList (i - b.data.size) 0).toNat:Int)]
  split <;> rfl
 rw [e]
 unfold i9
 by_cases h1:i < n
 ·have:Nat.blt i n=true:=by rw [Nat.blt_eq]; exact h1
  rw [this,if_pos (by rw [← p.1]; exact h1)]
  exact p.2 i (by rw [← p.1]; exact h1)
 ·have:Nat.blt i n=false:=by rw [← Bool.not_eq_true,Nat.blt_eq]; exact h1
  rw [this,if_neg (by rw [← p.1]; exact h1),p.1]
  exact q.2 (i - b.size) (by rw [p.1] at h1; omega)⟩
theorem aIR {lo hi:Int} (h:(0:Int)≤lo∧lo≤hi∧hi≤(b.size:Int)):(aJX b lo hi).size=Int.toNat (hi - lo):=by
 simp only [aJX,ByteArray.size_extract]
 omega
theorem sub {lo hi:Int} (p:RdB n g b) (h:(0:Int)≤lo∧lo≤hi∧hi≤(n:Int)):RdB (Int.toNat (hi - lo)) (aHS g (Int.toNat lo)) (aJX b lo hi):=by
 have hn:=p.1
 have hs:=aIR (b:=b) (lo:=lo) (hi:=hi) (by rw [← hn]; exact h)
 refine ⟨hs.symm,fun i hi'=>?_⟩
 rw [hs] at hi'
 have e:o7 (aJX b lo hi) i=o7 b (i+Int.toNat lo):=by
  unfold o7 aJX
  rw [ByteArray.data_extract,vZ,vZ]
  simp only [List.getD_eq_getElem?_getD,Array.getElem?_toList,Array.getElem?_extract]
  have hb:b.data.size=b.size:=rfl
  rw [if_pos (by omega),Nat.add_comm]
 rw [e]
 exact p.2 (i+Int.toNat lo) (by omega)
theorem to (p:RdB n g b) (h:b=b'):RdB n g b':=h ▸ p
theorem deq {t:Tag} (p:RdB n g b):DEq (.slice t 1 n g) (.slice .ro 1 b.size (o7 b)):=by
 obtain ⟨h1,h2⟩:=p
 subst h1
 exact .slice t .ro 1 _ g _ (.inr rfl) (fun i hi=>(h2 i hi).1) fun i hi=>(h2 i hi).2
theorem at_ (p:RdB n g b) {i:Nat} (hi:i < n):g i=[.int .u8 ((nth b.data.toList i 0).toNat:Int)]:=by
 have h1:=p.2 i (by rw [← p.1]; exact hi)
 have h2:(g i).length=1:=h1.1
 have h3:=h1.2 0
 match hg:g i,h2 with
 | [d],_ =>
  rw [hg] at h3
  have h4:DEq d (.int .u8 ((nth b.data.toList i 0).toNat:Int)):=h3
  cases h4
  rfl
theorem bytes (p:RdB n g b):aJ6 n g:=fun i hi=>⟨nth b.data.toList i 0,p.at_ hi⟩
theorem text (p:RdB n g b):wM n g=b:=by
 have key:∀ k,k≤n→kI g k=b.data.toList.take k:=by
  intro k
  induction k with
  | zero=>intro _; simp [kI]
  | succ k ih =>
   intro hk
   have hlt:k < b.data.toList.length:=by rw [Array.length_toList]; show k < b.size; rw [← p.1]; omega
   rw [kI,ih (by omega),p.at_ (by omega),List.take_succ_eq_append_getElem hlt]
   congr 2
   show UInt8.ofNat (Int.toNat ((nth b.data.toList k 0).toNat:Int))=_
   rw [Int.toNat_natCast,UInt8.ofNat_toNat,dH _ _ hlt]
 apply zG
 show (kI g n).toArray.toList=_
 rw [key n (Nat.le_refl _),List.take_of_length_le (by rw [Array.length_toList]; show b.size≤n; rw [p.1]; exact Nat.le_refl _)]
end RdB
def SlQ (n m:Nat) (g h:Nat→List D) (k:Prop):Prop:=n=m∧(∀ i,i < m→DEqs (g i) (h i))∧k
def SlS {α:Type} [Inhabited α] (enc:α→List D) (l:List α) (k:Prop):Prop:=l.length=l.length∧(∀ i,i < l.length→DEqs (gl enc l i) (gl enc l i))∧k
theorem slQ {n m:Nat} {g h:Nat→List D} {k:Prop} (p:n=m∧∀ i,i < m→DEqs (g i) (h i)) (r:k):SlQ n m g h k:=⟨p.1,p.2,r⟩
theorem SlS.mk {α:Type} [Inhabited α] {enc:α→List D} {l:List α} {k:Prop} (r:k):SlS enc l k:=⟨rfl,fun _ _=>DEqs.refl _,r⟩
def ts:List Nat→List AX
 | []=>[]
 | x::l=>.t x::ts l
def oT (d i:Nat) (op:AOp) (xs:List Nat):AO:=⟨some d,i,op,ts xs,none⟩
def oR (d i:Nat) (op:AOp) (xs:List Nat):AO:=⟨some d,1000000+i,op,ts xs,none⟩
def mT (d i x:Nat):AO:=⟨some d,i,.move,[.t x],none⟩
def mR (d i x:Nat):AO:=⟨some d,1000000+i,.move,[.t x],none⟩
def oG (d i:Nat) (op:AOp) (xs:List Nat) (j:Nat) (w:Bool):AO:=⟨some d,i,op,ts xs,some (j,w)⟩
theorem jX {p q k:Prop} (h:p∧q) (f:p→q→k):k:=f h.1 h.2
theorem Rds.gset {α:Type} [Inhabited α] {enc:α→List D} {n:Nat} {g:Nat→List D} {l:List α} {i:Nat} {cs:List D} {x:α} (p:Rds enc n g l) (h:DEqs cs (enc x)):Rds enc n (gset g i cs) (List.set l i x) :=
 ⟨by rw [p.1,List.length_set],fun j hj=>by
  rw [List.length_set] at hj
  unfold Abs.gset gl
  cases hb:Nat.beq j i with
  | true =>
   have:=Nat.eq_of_beq_eq_true hb
   subst this
   simp only [cond_true,List.getD_eq_getElem?_getD,List.getElem?_set_self hj,Option.getD_some]
   exact h
  | false =>
   have hne:i≠j:=fun e=>by rw [e,Nat.beq_refl] at hb; cases hb
   simp only [cond_false,List.getD_eq_getElem?_getD,List.getElem?_set_ne hne]
   have:=p.2 j hj
   unfold gl at this
   rw [List.getD_eq_getElem?_getD] at this
   exact this⟩
theorem bB {α:Type} [Inhabited α] {enc:α→List D} (g:Nat→List D) {n:Nat} {l:List α} (h:Rds enc n g l):n=l.length:=h.1
theorem b2s {n:Nat} {g:Nat→List D} {b:ByteArray} {V:Prop} {T:ByteArray→Prop} (h:V) (p:RdB n g b) (f:V→T b):aJ6 n g∧Let (wM n g) T :=
 ⟨p.bytes,by unfold Let; rw [p.text]; exact f h⟩
def mks {α:Type} [Inhabited α] (l:List (ByteArray×α)):Nat→ByteArray:=fun i=>(l.getD i default).1
def mvs {α:Type} [Inhabited α] (enc:α→List D) (l:List (ByteArray×α)):Nat→List D:=fun i=>enc (l.getD i default).2
def rN {α:Type}:List (ByteArray×α)→ByteArray→α→List (ByteArray×α)
 | [],k,v=>[(k,v)]
 | (a,b)::l,k,v=>if a=k then (k,v)::l else (a,b)::rN l k v
def Mds {α:Type} [Inhabited α] (enc:α→List D) (n:Nat) (ks:Nat→ByteArray) (vs:Nat→List D) (l:List (ByteArray×α)):Prop :=
 n=l.length∧(∀ i,i < l.length→ks i=mks l i)∧∀ i,i < l.length→DEqs (vs i) (mvs enc l i)
theorem gE (ks:Nat→ByteArray) (key:ByteArray):∀ n,mpF ks key n≤n
 | 0=>Nat.le_refl _
 | n+1=>by
  simp only [mpF]
  have:=gE ks key n
  split
  ·omega
  ·split <;> omega
theorem aD4 {ks ks':Nat→ByteArray} (key:ByteArray):∀ n,(∀ i,i < n→ks i=ks' i)→mpF ks key n=mpF ks' key n
 | 0,_=>rfl
 | n+1,h=>by
  simp only [mpF,aD4 key n fun i hi=>h i (by omega),h n (by omega)]
theorem wO {α:Type} [Inhabited α] (a:ByteArray) (b:α) (l:List (ByteArray×α)) (k:ByteArray):∀ n,mpF (mks ((a,b)::l)) k (n+1)=if a=k then 0 else mpF (mks l) k n+1
 | 0=>by
  simp only [mpF,mks,List.getD_cons_zero]
  split <;> simp_all
 | n+1=>by
  rw [mpF,wO a b l k n]
  by_cases h:a=k
  ·simp [h]
  ·simp only [if_neg h]
   show (if mpF (mks l) k n+1 < n+1 then mpF (mks l) k n+1 else if mks ((a,b)::l) (n+1)=k then n+1 else n+1+1)=mpF (mks l) k (n+1)+1
   rw [mpF]
   have:mks ((a,b)::l) (n+1)=mks l n:=by simp [mks]
   rw [this]
   by_cases h1:mpF (mks l) k n < n
   ·rw [if_pos (by omega),if_pos h1]
   ·rw [if_neg (by omega),if_neg h1]
    split <;> rfl
theorem mZ {α:Type} [Inhabited α] (k:ByteArray) (v:α):∀ l:List (ByteArray×α),(rN l k v).length=mpN (mks l) k l.length
 | []=>by simp [rN,mpN,mpF]
 | (a,b)::l=>by
  simp only [rN,mpN,List.length_cons,wO]
  by_cases h:a=k
  ·simp [h]
  ·simp only [if_neg h,List.length_cons,mZ k v l,mpN,Nat.add_lt_add_iff_right]
   split <;> rfl
theorem aBO {α:Type} [Inhabited α] (k:ByteArray) (v:α):∀ (l:List (ByteArray×α)) (i:Nat),i < (rN l k v).length→(rN l k v).getD i default=if i=mpF (mks l) k l.length then (k,v) else l.getD i default
 | [],i,h=>by
  have:i=0:=by simpa [rN] using h
  subst this
  simp [rN,mpF]
 | (a,b)::l,i,h=>by
  simp only [rN] at h ⊢
  rw [List.length_cons,wO]
  by_cases ha:a=k
  ·rw [if_pos ha] at h ⊢
   rw [if_pos ha]
   cases i with
   | zero=>simp
   | succ i=>simp
  ·rw [if_neg ha] at h ⊢
   rw [if_neg ha]
   cases i with
   | zero=>simp
   | succ i =>
    simp only [List.getD_cons_succ,Nat.add_right_cancel_iff]
    exact aBO k v l i (by simpa using h)
namespace Mds
variable {α:Type} [Inhabited α] {enc:α→List D} {n:Nat} {ks:Nat→ByteArray} {vs:Nat→List D} {l l':List (ByteArray×α)}
theorem self:Mds enc l.length (mks l) (mvs enc l) l:=⟨rfl,fun _ _=>rfl,fun _ _=>DEqs.refl _⟩
theorem nil:Mds enc 0 ks vs []:=⟨rfl,fun i h=>absurd h (Nat.not_lt_zero i),fun i h=>absurd h (Nat.not_lt_zero i)⟩
theorem set {cs:List D} {k:ByteArray} {x:α} (p:Mds enc n ks vs l) (h:DEqs cs (enc x)):Mds enc (mpN ks k n) (gI ks k n) (gJ ks vs k cs n) (rN l k x):=by
 obtain ⟨rfl,p2,p3⟩:=p
 have hf:mpF ks k l.length=mpF (mks l) k l.length:=aD4 k _ p2
 have hlen:mpN ks k l.length=(rN l k x).length:=by rw [mZ,mpN,mpN,hf]
 have hub:=gE (mks l) k l.length
 have hnew:∀ i,i < (rN l k x).length→i≠mpF (mks l) k l.length→i < l.length:=fun i hi hne=>by
  rw [mZ,mpN] at hi
  split at hi <;> omega
 refine ⟨hlen,fun i hi=>?_,fun i hi=>?_⟩
 ·show gI ks k l.length i=((rN l k x).getD i default).1
  rw [aBO k x l i hi,gI,hf]
  split
  ·rfl
  ·rename_i hne
   exact p2 i (hnew i hi hne)
 ·show DEqs (gJ ks vs k cs l.length i) (enc ((rN l k x).getD i default).2)
  rw [aBO k x l i hi,gJ,hf]
  split
  ·exact h
  ·rename_i hne
   exact p3 i (hnew i hi hne)
theorem to (p:Mds enc n ks vs l) (h:l=l'):Mds enc n ks vs l':=h ▸ p
end Mds
def eS (n:Nat):Nat:=if n=0 then 0 else n.log2+1
def nb (n:Nat):Nat:=(eS n+7) / 8
def be:Nat→Nat→List UInt8
 | 0,_=>[]
 | k+1,n=>be k (n / 256)++[UInt8.ofNat n]
def num (n:Nat):ByteArray:=⟨(UInt8.ofNat (nb n)::be (nb n) n).toArray⟩
def val (b:ByteArray) (i:Nat):Nat→Int
 | 0=>0
 | k+1=>val b i k * 256+aN6 b (i+k)
def U64 (n:Int):Prop:=0≤n∧n≤18446744073709551615
def eR (a:Int):Prop:=U64 a
def cR (a:Int):Int:=(eS a.toNat:Int)
theorem U64.lt {n:Int} (h:U64 n):n.toNat < 2 ^ 64:=by obtain ⟨h1,h2⟩:=h; omega
def aOE:Codec (Int):=aEP .u64
def aKO:Codec (Int):=aEP .i64
def aB (x:ByteArray):List D:=[.str x]
def tR:Codec (ByteArray):=aJS
abbrev aC:Type:=ByteArray×ByteArray
def aF (x:aC):List D:=[.str x.1,.str x.2]
def eG:Codec (aC):=aFR (mL tR tR)
def aD (x:List (aC)):List D:=[.slice .ro 2 x.length (gl aF x)]
def eW:Codec (List (aC)):=jI eG
def aNV:Codec (Bool):=aDD
def aM8:Codec (List (ByteArray)):=jI tR
abbrev aG:Type:=Int×ByteArray×(List (aC))
def cH (x:aG):List D:=[.int .i64 x.1,.str x.2.1,.slice .ro 2 x.2.2.length (gl aF x.2.2)]
def dL:Codec (aG):=aFR (mL aKO (mL tR eW))
def yI:Codec (List (aG)):=jI dL
def aOG:Codec (Int):=aEP .u8
def aOF:Codec (Int):=aEP .i32
def f45.args (a:Int):List D:=[.int .u64 a]
def f45.blks (a:Int):List (List D):=[]
def f45.res (a:Int):List D:=[.int .i64 (cR a)]
def f45.blks' (a:Int):List (List D):=[]
def f45.C:aP:=FnC f45.args f45.blks (fun a=>eR a) f45.res f45.blks'
set_option linter.unusedVariables false
def f45.s0:ByteArray:=⟨#[0,1,2,2,3,3,3,3,4,4,4,4,4,4,4,4,5,5,5,5,5,5,5,5,5,5,5,5,5,5,5,5,6,6,6,6,6,6,6,6,6,6,6,6,6,6,6,6,6,6,6,6,6,6,6,6,6,6,6,6,6,6,6,6,7,7,7,7,7,7,7,7,7,7,7,7,7,7,7,7,7,7,7,7,7,7,7,7,7,7,7,7,7,7,7,7,7,7,7,7,7,7,7,7,7,7,7,7,7,7,7,7,7,7,7,7,7,7,7,7,7,7,7,7,7,7,7,7,8,8,8,8,8,8,8,8,8,8,8,8,8,8,8,8,8,8,8,8,8,8,8,8,8,8,8,8,8,8,8,8,8,8,8,8,8,8,8,8,8,8,8,8,8,8,8,8,8,8,8,8,8,8,8,8,8,8,8,8,8,8,8,8,8,8,8,8,8,8,8,8,8,8,8,8,8,8,8,8,8,8,8,8,8,8,8,8,8,8,8,8,8,8,8,8,8,8,8,8,8,8,8,8,8,8,8,8,8,8,8,8,8,8,8,8,8,8,8,8,8,8,8,8,8,8,8,8]⟩
def f45.kills (a:Int):List Hint:=[]
def f45.cuts (a:Int):List (Nat×Σ β:Type,β→Tm):=[]
def f45.af (a:Int):AF:=AF.mk (.seq (.region [⟨(some 2),0,.move,[.c (.int .i64 (0))],none⟩])
 (.seq (.seq (.region [mT 3 1 0,
 ⟨(some 4),2,(.bin .geq),[.t 3,.c (.int .u64 (4294967296))],none⟩])
 (.cond (.t 4) (.seq (.region [mT 5 3 0,
 ⟨(some 6),4,(.bin .shr),[.t 5,.c (.int .u64 (32))],none⟩,
 mT 0 5 6])
 (.region [⟨(some 2),6,.move,[.c (.int .i64 (32))],none⟩])) (.skip)))
 (.seq (.seq (.region [mT 7 7 0,
 ⟨(some 8),8,(.bin .geq),[.t 7,.c (.int .u64 (65536))],none⟩])
 (.cond (.t 8) (.seq (.region [mT 9 9 0,
 ⟨(some 10),10,(.bin .shr),[.t 9,.c (.int .u64 (16))],none⟩,
 mT 0 11 10])
 (.region [mT 11 12 2,
 ⟨(some 12),13,(.bin .add),[.t 11,.c (.int .i64 (16))],none⟩,
 mT 2 14 12])) (.skip)))
 (.seq (.seq (.region [mT 13 15 0,
 ⟨(some 14),16,(.bin .geq),[.t 13,.c (.int .u64 (256))],none⟩])
 (.cond (.t 14) (.seq (.region [mT 15 17 0,
 ⟨(some 16),18,(.bin .shr),[.t 15,.c (.int .u64 (8))],none⟩,
 mT 0 19 16])
 (.region [mT 17 20 2,
 ⟨(some 18),21,(.bin .add),[.t 17,.c (.int .i64 (8))],none⟩,
 mT 2 22 18])) (.skip)))
 (.seq (.region [mT 19 23 2,
 mT 20 24 0,
 oT 21 25 (.conv (.int .u8)) [20],
 ⟨(some 22),26,.indexStr,[.c (.str f45.s0),.t 21],none⟩,
 oT 23 27 (.conv (.int .i64)) [22],
 oT 24 28 (.bin .add) [19,23],
 mT 2 29 24])
 (.ret))))))
 [.tmp 2] 0 24
def f45.env:Env:=[]
def f45.tree (a:Int):Prop:=Br (decide ((4294967296:Int)≤a)) (Let (Int.fdiv a 4294967296) (fun v3:Int=>Br (decide ((65536:Int)≤v3)) (Let (Int.fdiv v3 65536) (fun v6:Int=>Br (decide ((256:Int)≤v6)) (Let (Int.fdiv v6 256) (fun v9:Int=>Br (decide ((0:Int)≤(IntKind.u8.wrap v9))&&decide ((IntKind.u8.wrap v9) < (256:Int))) (Let (wI (bAt f45.s0 (IntKind.u8.wrap v9))) (fun v11:Int=>Let (wI ((56:Int)+v11)) (fun v12:Int=>(v12=(cR a))∧True))) False)) (Br (decide ((0:Int)≤(IntKind.u8.wrap v6))&&decide ((IntKind.u8.wrap v6) < (256:Int))) (Let (wI (bAt f45.s0 (IntKind.u8.wrap v6))) (fun v22:Int=>Let (wI ((48:Int)+v22)) (fun v23:Int=>(v23=(cR a))∧True))) False))) (Br (decide ((256:Int)≤v3)) (Let (Int.fdiv v3 256) (fun v36:Int=>Br (decide ((0:Int)≤(IntKind.u8.wrap v36))&&decide ((IntKind.u8.wrap v36) < (256:Int))) (Let (wI (bAt f45.s0 (IntKind.u8.wrap v36))) (fun v38:Int=>Let (wI ((40:Int)+v38)) (fun v39:Int=>(v39=(cR a))∧True))) False)) (Br (decide ((0:Int)≤(IntKind.u8.wrap v3))&&decide ((IntKind.u8.wrap v3) < (256:Int))) (Let (wI (bAt f45.s0 (IntKind.u8.wrap v3))) (fun v49:Int=>Let (wI ((32:Int)+v49)) (fun v50:Int=>(v50=(cR a))∧True))) False)))) (Br (decide ((65536:Int)≤a)) (Let (Int.fdiv a 65536) (fun v65:Int=>Br (decide ((256:Int)≤v65)) (Let (Int.fdiv v65 256) (fun v68:Int=>Br (decide ((0:Int)≤(IntKind.u8.wrap v68))&&decide ((IntKind.u8.wrap v68) < (256:Int))) (Let (wI (bAt f45.s0 (IntKind.u8.wrap v68))) (fun v70:Int=>Let (wI ((24:Int)+v70)) (fun v71:Int=>(v71=(cR a))∧True))) False)) (Br (decide ((0:Int)≤(IntKind.u8.wrap v65))&&decide ((IntKind.u8.wrap v65) < (256:Int))) (Let (wI (bAt f45.s0 (IntKind.u8.wrap v65))) (fun v81:Int=>Let (wI ((16:Int)+v81)) (fun v82:Int=>(v82=(cR a))∧True))) False))) (Br (decide ((256:Int)≤a)) (Let (Int.fdiv a 256) (fun v95:Int=>Br (decide ((0:Int)≤(IntKind.u8.wrap v95))&&decide ((IntKind.u8.wrap v95) < (256:Int))) (Let (wI (bAt f45.s0 (IntKind.u8.wrap v95))) (fun v97:Int=>Let (wI ((8:Int)+v97)) (fun v98:Int=>(v98=(cR a))∧True))) False)) (Br (decide ((0:Int)≤(IntKind.u8.wrap a))&&decide ((IntKind.u8.wrap a) < (256:Int))) (Let (wI (bAt f45.s0 (IntKind.u8.wrap a))) (fun v108:Int=>Let (wI ((0:Int)+v108)) (fun v109:Int=>(v109=(cR a))∧True))) False)))
def f45.vc (a:Int):Prop:=(((4294967296:Int)≤a→(((65536:Int)≤(a / 4294967296)→(((256:Int)≤((a / 4294967296) / 65536)→((0:Int)≤(IntKind.u8.wrap (((a / 4294967296) / 65536) / 256))∧(IntKind.u8.wrap (((a / 4294967296) / 65536) / 256)) < (256:Int)∧(-9223372036854775808≤((56:Int)+(bAt f45.s0 (IntKind.u8.wrap (((a / 4294967296) / 65536) / 256))))∧((56:Int)+(bAt f45.s0 (IntKind.u8.wrap (((a / 4294967296) / 65536) / 256))))≤9223372036854775807∧(((56:Int)+(bAt f45.s0 (IntKind.u8.wrap (((a / 4294967296) / 65536) / 256))))=cR a))))∧(¬((256:Int)≤((a / 4294967296) / 65536))→((0:Int)≤(IntKind.u8.wrap ((a / 4294967296) / 65536))∧(IntKind.u8.wrap ((a / 4294967296) / 65536)) < (256:Int)∧(-9223372036854775808≤((48:Int)+(bAt f45.s0 (IntKind.u8.wrap ((a / 4294967296) / 65536))))∧((48:Int)+(bAt f45.s0 (IntKind.u8.wrap ((a / 4294967296) / 65536))))≤9223372036854775807∧(((48:Int)+(bAt f45.s0 (IntKind.u8.wrap ((a / 4294967296) / 65536))))=cR a))))))∧(¬((65536:Int)≤(a / 4294967296))→(((256:Int)≤(a / 4294967296)→((0:Int)≤(IntKind.u8.wrap ((a / 4294967296) / 256))∧(IntKind.u8.wrap ((a / 4294967296) / 256)) < (256:Int)∧(-9223372036854775808≤((40:Int)+(bAt f45.s0 (IntKind.u8.wrap ((a / 4294967296) / 256))))∧((40:Int)+(bAt f45.s0 (IntKind.u8.wrap ((a / 4294967296) / 256))))≤9223372036854775807∧(((40:Int)+(bAt f45.s0 (IntKind.u8.wrap ((a / 4294967296) / 256))))=cR a))))∧(¬((256:Int)≤(a / 4294967296))→((0:Int)≤(IntKind.u8.wrap (a / 4294967296))∧(IntKind.u8.wrap (a / 4294967296)) < (256:Int)∧(-9223372036854775808≤((32:Int)+(bAt f45.s0 (IntKind.u8.wrap (a / 4294967296))))∧((32:Int)+(bAt f45.s0 (IntKind.u8.wrap (a / 4294967296))))≤9223372036854775807∧(((32:Int)+(bAt f45.s0 (IntKind.u8.wrap (a / 4294967296))))=cR a))))))))∧(¬((4294967296:Int)≤a)→(((65536:Int)≤a→(((256:Int)≤(a / 65536)→((0:Int)≤(IntKind.u8.wrap ((a / 65536) / 256))∧(IntKind.u8.wrap ((a / 65536) / 256)) < (256:Int)∧(-9223372036854775808≤((24:Int)+(bAt f45.s0 (IntKind.u8.wrap ((a / 65536) / 256))))∧((24:Int)+(bAt f45.s0 (IntKind.u8.wrap ((a / 65536) / 256))))≤9223372036854775807∧(((24:Int)+(bAt f45.s0 (IntKind.u8.wrap ((a / 65536) / 256))))=cR a))))∧(¬((256:Int)≤(a / 65536))→((0:Int)≤(IntKind.u8.wrap (a / 65536))∧(IntKind.u8.wrap (a / 65536)) < (256:Int)∧(-9223372036854775808≤((16:Int)+(bAt f45.s0 (IntKind.u8.wrap (a / 65536))))∧((16:Int)+(bAt f45.s0 (IntKind.u8.wrap (a / 65536))))≤9223372036854775807∧(((16:Int)+(bAt f45.s0 (IntKind.u8.wrap (a / 65536))))=cR a))))))∧(¬((65536:Int)≤a)→(((256:Int)≤a→((0:Int)≤(IntKind.u8.wrap (a / 256))∧(IntKind.u8.wrap (a / 256)) < (256:Int)∧(-9223372036854775808≤((8:Int)+(bAt f45.s0 (IntKind.u8.wrap (a / 256))))∧((8:Int)+(bAt f45.s0 (IntKind.u8.wrap (a / 256))))≤9223372036854775807∧(((8:Int)+(bAt f45.s0 (IntKind.u8.wrap (a / 256))))=cR a))))∧(¬((256:Int)≤a)→((0:Int)≤(IntKind.u8.wrap a)∧(IntKind.u8.wrap a) < (256:Int)∧(-9223372036854775808≤((0:Int)+(bAt f45.s0 (IntKind.u8.wrap a)))∧((0:Int)+(bAt f45.s0 (IntKind.u8.wrap a)))≤9223372036854775807∧(((0:Int)+(bAt f45.s0 (IntKind.u8.wrap a)))=cR a)))))))))
theorem f45.of (a:Int) (h:f45.vc a):f45.tree a:=br h Cnd.dec (fun h1 k122=>tO (by decide) (br k122 Cnd.dec (fun h4 k61=>tO (by decide) (br k61 Cnd.dec (fun h7 k32=>tO (by decide) (chk k32.2.2 Cnd.ix ⟨k32.1,k32.2.1⟩ (fun h10 k20=>wrapR.i64 (u8b _ _) (wrapK.i64 k20 (fun h14 h15 k16=>⟨k16,trivial⟩))))) (fun h8 k33=>chk k33.2.2 Cnd.ix ⟨k33.1,k33.2.1⟩ (fun h21 k31=>wrapR.i64 (u8b _ _) (wrapK.i64 k31 (fun h25 h26 k27=>⟨k27,trivial⟩)))))) (fun h5 k62=>br k62 Cnd.dec (fun h34 k59=>tO (by decide) (chk k59.2.2 Cnd.ix ⟨k59.1,k59.2.1⟩ (fun h37 k47=>wrapR.i64 (u8b _ _) (wrapK.i64 k47 (fun h41 h42 k43=>⟨k43,trivial⟩))))) (fun h35 k60=>chk k60.2.2 Cnd.ix ⟨k60.1,k60.2.1⟩ (fun h48 k58=>wrapR.i64 (u8b _ _) (wrapK.i64 k58 (fun h52 h53 k54=>⟨k54,trivial⟩))))))) (fun h2 k123=>br k123 Cnd.dec (fun h63 k120=>tO (by decide) (br k120 Cnd.dec (fun h66 k91=>tO (by decide) (chk k91.2.2 Cnd.ix ⟨k91.1,k91.2.1⟩ (fun h69 k79=>wrapR.i64 (u8b _ _) (wrapK.i64 k79 (fun h73 h74 k75=>⟨k75,trivial⟩))))) (fun h67 k92=>chk k92.2.2 Cnd.ix ⟨k92.1,k92.2.1⟩ (fun h80 k90=>wrapR.i64 (u8b _ _) (wrapK.i64 k90 (fun h84 h85 k86=>⟨k86,trivial⟩)))))) (fun h64 k121=>br k121 Cnd.dec (fun h93 k118=>tO (by decide) (chk k118.2.2 Cnd.ix ⟨k118.1,k118.2.1⟩ (fun h96 k106=>wrapR.i64 (u8b _ _) (wrapK.i64 k106 (fun h100 h101 k102=>⟨k102,trivial⟩))))) (fun h94 k119=>chk k119.2.2 Cnd.ix ⟨k119.1,k119.2.1⟩ (fun h107 k117=>wrapR.i64 (u8b _ _) (wrapK.i64 k117 (fun h111 h112 k113=>⟨k113,trivial⟩))))))
theorem f45.eq (a:Int):(f45.af a).gives f45.env (f45.args a) (f45.blks a) (f45.res a) (f45.blks' a)=f45.tree a:=by kernel_rfl
theorem aMA:∀ x:Fin 256,nth f45.s0.data.toList x.1 0=UInt8.ofNat (eS x.1):=by decide +kernel
theorem tab (x:Nat) (h:x < 256):bAt f45.s0 (IntKind.u8.wrap (x:Int))=(eS x:Int):=by
 have h1:IntKind.u8.wrap (x:Int)=(x:Int):=hH (by simp [IntKind.signed]) (by simp [IntKind.signed,IntKind.bits]; omega)
 have h2:nth f45.s0.data.toList x 0=UInt8.ofNat (eS x):=aMA ⟨x,h⟩
 unfold bAt
 rw [h1,Int.toNat_natCast,h2,UInt8.toNat_ofNat']
 have:eS x≤8:=by
  unfold eS
  split
  ·omega
  ·rename_i h0
   have:=(Nat.log2_lt h0 (k:=8)).2 (by omega)
   omega
 omega
theorem vU {n k:Nat} (h:2 ^ k≤n):eS n=k+eS (n / 2 ^ k):=by
 have hp:0 < 2 ^ k:=Nat.pow_pos (by decide)
 have h1:n / 2 ^ k≠0:=by
  have:=(Nat.le_div_iff_mul_le hp (x:=1) (y:=n)).2 (by omega)
  omega
 have h0:n≠0:=by omega
 unfold eS
 rw [if_neg h0,if_neg h1]
 have e:n.log2=k+(n / 2 ^ k).log2:=by
  have a1:2 ^ (n / 2 ^ k).log2≤n / 2 ^ k:=(Nat.le_log2 h1).1 (Nat.le_refl _)
  have a2:n / 2 ^ k < 2 ^ ((n / 2 ^ k).log2+1):=(Nat.log2_lt h1).1 (Nat.lt_succ_self _)
  have b1:2 ^ (k+(n / 2 ^ k).log2)≤n:=by
   rw [Nat.pow_add,Nat.mul_comm]
   exact (Nat.le_div_iff_mul_le hp).1 a1
  have b2:n < 2 ^ (k+(n / 2 ^ k).log2+1):=by
   rw [Nat.add_assoc,Nat.pow_add,Nat.mul_comm]
   exact (Nat.div_lt_iff_lt_mul hp).1 a2
  have c1:=(Nat.le_log2 h0).2 b1
  have c2:=(Nat.log2_lt h0).2 b2
  omega
 omega
theorem f45.ok (a:Int) (h:eR a):f45.vc a:=by
 obtain ⟨h0,h1⟩:=h
 obtain ⟨n,rfl⟩:=Int.eq_ofNat_of_zero_le h0
 have key:∀ (x:Nat) (k:Nat) (c:Int),x < 256→cR (n:Int)=k+eS x→(k:Int)=c→k≤64→(0:Int)≤(IntKind.u8.wrap (x:Int))∧(IntKind.u8.wrap (x:Int)) < (256:Int)∧-9223372036854775808≤(c+(bAt f45.s0 (IntKind.u8.wrap (x:Int))))∧(c+(bAt f45.s0 (IntKind.u8.wrap (x:Int))))≤9223372036854775807∧(c+(bAt f45.s0 (IntKind.u8.wrap (x:Int))))=cR (n:Int):=by
  intro x k c hx hl hk hk'
  have h3:=u8w (x:Int)
  have h4:=u8b f45.s0 (IntKind.u8.wrap (x:Int))
  have h5:=tab x hx
  refine ⟨h3.1,by omega,by omega,by omega,by rw [hl,h5,← hk]⟩
 have l64:cR (n:Int)=(eS n:Int):=by simp [cR]
 have d32:((n:Int) / 4294967296)=((n / 4294967296:Nat):Int):=by simp
 have d16:∀ m:Nat,((m:Int) / 65536)=((m / 65536:Nat):Int):=fun m=>by simp
 have d8:∀ m:Nat,((m:Int) / 256)=((m / 256:Nat):Int):=fun m=>by simp
 have b32:∀ m:Nat,4294967296≤m→eS m=32+eS (m / 4294967296):=fun m hm=>vU (k:=32) hm
 have b16:∀ m:Nat,65536≤m→eS m=16+eS (m / 65536):=fun m hm=>vU (k:=16) hm
 have b8:∀ m:Nat,256≤m→eS m=8+eS (m / 256):=fun m hm=>vU (k:=8) hm
 unfold f45.vc
 rw [d32,d16,d16]
 rw [d8,d8,d8,d8]
 refine ⟨fun h2=>⟨fun h3=>⟨fun h4=>?_,fun h4=>?_⟩,fun h3=>⟨fun h4=>?_,fun h4=>?_⟩⟩,fun h2=>⟨fun h3=>⟨fun h4=>?_,fun h4=>?_⟩,fun h3=>⟨fun h4=>?_,fun h4=>?_⟩⟩⟩
 ·exact key _ 56 _ (by omega) (by rw [l64,b32 n (by omega),b16 _ (by omega),b8 _ (by omega)]; omega) rfl (by omega)
 ·exact key _ 48 _ (by omega) (by rw [l64,b32 n (by omega),b16 _ (by omega)]; omega) rfl (by omega)
 ·exact key _ 40 _ (by omega) (by rw [l64,b32 n (by omega),b8 _ (by omega)]; omega) rfl (by omega)
 ·exact key _ 32 _ (by omega) (by rw [l64,b32 n (by omega)]; omega) rfl (by omega)
 ·exact key _ 24 _ (by omega) (by rw [l64,b16 n (by omega),b8 _ (by omega)]; omega) rfl (by omega)
 ·exact key _ 16 _ (by omega) (by rw [l64,b16 n (by omega)]; omega) rfl (by omega)
 ·exact key _ 8 _ (by omega) (by rw [l64,b8 n (by omega)]; omega) rfl (by omega)
 ·exact key _ 0 _ (by omega) (by rw [l64]; omega) rfl (by omega)
end Go.Abs
