/- Functions, and what the code asks of them: PPdq. -/
import Derived.KernelRfl
import Derived.Sort.AssemblyPlain
import Derived.Sort.Defs
import Derived.Sort.LotD4
import Derived.Sort.LotD5
import Derived.Test.YtcmjinkfgbadoabLabelsNilP4
import Derived.Test.YtcmjinkfgbadoabLabelsNilP9
import Derived.Test.YtcmjinkfgbadoabLabelsNilP10
set_option maxRecDepth 100000
set_option maxHeartbeats 4000000
set_option linter.unusedVariables false
set_option linter.unusedSimpArgs false
set_option linter.unusedSectionVars false
namespace Go.Abs
open Go
section
variable {α:Type} [Inhabited α]
def rC (c:List α×Int×Int):List α:=(Sort.reverseRange c.1.toArray c.2.1.toNat c.2.2.toNat).toList
def eJ (c:List α×Int×Int):List α:=(Sort.breakPatterns c.1.toArray c.2.1.toNat c.2.2.toNat).toList
variable (lt:α→α→Bool)
def t7 (c:List α×Int×Int):List α:=(Sort.insertionSort lt c.1.toArray c.2.1.toNat c.2.2.toNat).toList
def d9 (c:List α×Int×Int×Int):List α:=(Sort.siftDown lt c.2.2.1.toNat c.2.2.2.toNat c.2.1.toNat c.1.toArray).toList
def mK (c:List α×Int×Int):List α:=(Sort.heapSort lt c.1.toArray c.2.1.toNat c.2.2.toNat).toList
def bI (c:List α×Int×Int):Bool×List α:=((Sort.partialInsertionSort lt c.1.toArray c.2.1.toNat c.2.2.toNat).2,(Sort.partialInsertionSort lt c.1.toArray c.2.1.toNat c.2.2.toNat).1.toList)
def cT (c:List α×Int×Int×Int):Int×List α:=(((Sort.partitionEqual lt c.1.toArray c.2.1.toNat c.2.2.1.toNat c.2.2.2.toNat).1:Int),(Sort.partitionEqual lt c.1.toArray c.2.1.toNat c.2.2.1.toNat c.2.2.2.toNat).2.toList)
def aS (c:List α×Int×Int×Int):Int×Bool×List α:=(((Sort.partition lt c.1.toArray c.2.1.toNat c.2.2.1.toNat c.2.2.2.toNat).1:Int),(Sort.partition lt c.1.toArray c.2.1.toNat c.2.2.1.toNat c.2.2.2.toNat).2.1,(Sort.partition lt c.1.toArray c.2.1.toNat c.2.2.1.toNat c.2.2.2.toNat).2.2.toList)
def aJ (c:List α×Int×Int×Int):Int×Int×List α×Int:=if lt (at_ c.1 c.2.2.1) (at_ c.1 c.2.1)=true then (c.2.2.1,c.2.1,c.1,c.2.2.2+1) else (c.2.1,c.2.2.1,c.1,c.2.2.2)
def fL (c:List α×Int×Int×Int×Int):Int×List α×Int:=(((Sort.median lt c.1.toArray c.2.1.toNat c.2.2.1.toNat c.2.2.2.1.toNat c.2.2.2.2.toNat).1:Int),c.1,((Sort.median lt c.1.toArray c.2.1.toNat c.2.2.1.toNat c.2.2.2.1.toNat c.2.2.2.2.toNat).2:Int))
def aO (c:List α×Int×Int):Int×List α×Int:=(((Sort.medianAdjacent lt c.1.toArray c.2.1.toNat c.2.2.toNat).1:Int),c.1,((Sort.medianAdjacent lt c.1.toArray c.2.1.toNat c.2.2.toNat).2:Int))
def aCT:Sort.Hint→Int
 | .unknown=>0
 | .increasing=>1
 | .decreasing=>2
def aV (c:List α×Int×Int):Int×Int×List α:=(((Sort.choosePivot lt c.1.toArray c.2.1.toNat c.2.2.toNat).1:Int),aCT (Sort.choosePivot lt c.1.toArray c.2.1.toNat c.2.2.toNat).2,c.1)
def eE (c:List α×Int×Int×Int):List α:=(Sort.pdq lt c.1.toArray c.2.1.toNat c.2.2.1.toNat c.2.2.2.toNat true true).toList
def eB (c:List α):List α:=(Sort.sort lt c.toArray).toList
end
section
variable {α:Type}
def qZ (c:List α):Prop:=c.length≤1048576
def gN (c:List α×Int×Int):Prop:=0≤c.2.1∧c.2.1≤c.2.2∧c.2.2≤c.1.length∧c.1.length≤1048576
def fS (c:List α×Int×Int):Prop:=gN c∧c.2.1 < c.2.2
def kS (c:List α×Int×Int×Int):Prop:=0≤c.2.1∧0≤c.2.2.1∧0≤c.2.2.2∧c.2.2.1+c.2.2.2≤c.1.length∧c.1.length≤1048576∧c.2.1≤1048576
def hT (c:List α×Int×Int×Int):Prop:=0≤c.2.1∧c.2.1≤c.2.2.2∧c.2.2.2 < c.2.2.1∧c.2.2.1≤c.1.length∧c.1.length≤1048576
def iF (c:List α×Int×Int×Int):Prop:=0≤c.2.1∧c.2.1 < c.1.length∧0≤c.2.2.1∧c.2.2.1 < c.1.length∧0≤c.2.2.2∧c.2.2.2≤1048576
def oP (c:List α×Int×Int×Int×Int):Prop:=0≤c.2.1∧c.2.1 < c.1.length∧0≤c.2.2.1∧c.2.2.1 < c.1.length∧0≤c.2.2.2.1∧c.2.2.2.1 < c.1.length∧0≤c.2.2.2.2∧c.2.2.2.2≤1000000
def iB (c:List α×Int×Int):Prop:=1≤c.2.1∧c.2.1+1 < c.1.length∧0≤c.2.2∧c.2.2≤1000000∧c.1.length≤1048576
def qM (c:List α×Int×Int×Int):Prop:=0≤c.2.1∧c.2.1≤c.2.2.1∧c.2.2.1≤c.1.length∧c.1.length≤1048576∧0≤c.2.2.2∧c.2.2.2≤1048576
def aFK (c:List α×Int×Int×Int):Nat:=(c.2.2.1 - c.2.1).toNat
end
def aBF (x:Nat):Nat:=(Sort.xorNext (UInt64.ofNat x)).toNat
def eA (x:Int):Int×Int:=((aBF x.toNat:Int),(aBF x.toNat:Int))
def oJ (x:Int):Prop:=U64 x
def mP (n:Int):Int:=(2 ^ eS n.toNat:Nat)
def rZ (n:Int):Prop:=0≤n∧n≤1048576
section
variable {α:Type} [Inhabited α]
theorem aBS (l:List α) (i:Nat):l.toArray[i]! = l.getD i default:=by
 rw [List.getElem!_toArray,List.getElem!_eq_getElem?_getD,List.getD_eq_getElem?_getD]
theorem eK (l:List α) (i j:Nat):Sort.swp l.toArray i j=(swp l i j).toArray:=by
 unfold Sort.swp swp
 rw [aBS,aBS,List.setIfInBounds_toArray,List.setIfInBounds_toArray]
variable (lt:α→α→Bool)
theorem aBK {a j:Nat} {d:Array α} (h:a < j) (hl:lt d[j]! d[j - 1]! = true):Sort.insInner lt a j d=Sort.insInner lt a (j - 1) (Sort.swp d j (j - 1)):=by
 obtain ⟨k,rfl⟩:∃ k,j=k+1:=⟨j - 1,by omega⟩
 rw [Sort.insInner]
 simp only [Nat.add_sub_cancel] at hl ⊢
 rw [hl]
 simp [h]
theorem tJ {a j:Nat} {d:Array α} (h:j≤a∨lt d[j]! d[j - 1]! = false):Sort.insInner lt a j d=d:=by
 cases j with
 | zero=>rfl
 | succ k =>
  rw [Sort.insInner]
  simp only [Nat.add_sub_cancel] at h ⊢
  rw [if_neg]
  rcases h with h | h
  ·simp; omega
  ·rw [h]; simp
theorem aBU {a b i:Nat} {d:Array α} (h:i < b):Sort.insOuter lt a b i d=Sort.insOuter lt a b (i+1) (Sort.insInner lt a i d):=by
 rw [Sort.insOuter,if_pos h]
theorem aCO {a b i:Nat} {d:Array α} (h:¬i < b):Sort.insOuter lt a b i d=d:=by
 rw [Sort.insOuter,if_neg h]
def iL (hi first root:Nat) (d:Array α):Nat:=if 2 * root+1+1 < hi&&lt d[first+(2 * root+1)]! d[first+(2 * root+1)+1]! then 2 * root+2 else 2 * root+1
theorem xC {hi first root:Nat} {d:Array α} (h:hi≤2 * root+1):Sort.siftDown lt hi first root d=d:=by
 rw [Sort.siftDown,dif_pos h]
theorem aGP {hi first root:Nat} {d:Array α} (h:¬hi≤2 * root+1) (hl:lt d[first+root]! d[first+iL lt hi first root d]! = false):Sort.siftDown lt hi first root d=d:=by
 rw [Sort.siftDown,dif_neg h]
 unfold iL at hl
 split
 ·rename_i c
  rw [if_pos c] at hl
  rw [hl]
  rfl
 ·rename_i c
  rw [if_neg c] at hl
  rw [hl]
  rfl
theorem aCF {hi first root:Nat} {d:Array α} (h:¬hi≤2 * root+1) (hl:lt d[first+root]! d[first+iL lt hi first root d]! = true) :
  Sort.siftDown lt hi first root d=Sort.siftDown lt hi first (iL lt hi first root d) (Sort.swp d (first+root) (first+iL lt hi first root d)):=by
 rw [Sort.siftDown,dif_neg h]
 unfold iL at hl ⊢
 split
 ·rename_i c
  rw [if_pos c] at hl
  rw [hl]
  have:2 * root+2 < hi:=by simp at c; omega
  simp [this]
 ·rename_i c
  rw [if_neg c] at hl
  rw [hl]
  simp
theorem size_swp (d:Array α) (i j:Nat):(Sort.swp d i j).size=d.size:=Sort.size_swp d i j
theorem zI (hi first:Nat):∀ (n root:Nat) (d:Array α),hi - root≤n→(Sort.siftDown lt hi first root d).size=d.size
 | 0,root,d,h=>by rw [xC lt (by omega)]
 | n+1,root,d,h=>by
  by_cases c:hi≤2 * root+1
  ·rw [xC lt c]
  ·cases hl:lt d[first+root]! d[first+iL lt hi first root d]! with
   | false=>rw [aGP lt c hl]
   | true =>
    rw [aCF lt c hl,zI hi first n _ _ ?_,size_swp]
    unfold iL
    split <;> omega
theorem nN:∀ (j:Nat) (d:Array α),(Sort.shiftDown lt j d).size=d.size
 | 0,d=>rfl
 | j+1,d=>by
  rw [Sort.shiftDown]
  split
  ·rfl
  ·rw [nN j,size_swp]
theorem q8 (b:Nat):∀ (n j:Nat) (d:Array α),b - j≤n→(Sort.shiftUp lt b j d).size=d.size
 | 0,j,d,h=>by rw [Sort.shiftUp,if_neg (by omega)]
 | n+1,j,d,h=>by
  rw [Sort.shiftUp]
  split
  ·split
   ·rfl
   ·rw [q8 b n _ _ (by omega),size_swp]
  ·rfl
theorem mN (a b:Nat):∀ (s i:Nat) (d:Array α),(Sort.partialIns lt a b s i d).1.size=d.size
 | 0,i,d=>rfl
 | s+1,i,d=>by
  rw [Sort.partialIns]
  simp only
  split
  ·rfl
  ·split
   ·rfl
   ·rw [mN a b s]
    split <;> split <;> simp only [q8 lt b _ _ _ (Nat.le_refl _),nN,size_swp]
theorem rD:∀ (n i j:Nat) (d:Array α),j - i≤n→(Sort.reverseLoop i j d).size=d.size
 | 0,i,j,d,h=>by rw [Sort.reverseLoop,if_neg (by omega)]
 | n+1,i,j,d,h=>by
  rw [Sort.reverseLoop]
  split
  ·rw [rD n _ _ _ (by omega),size_swp]
  ·rfl
theorem aC5 {i j:Nat} {d:Array α} (h:i < j):Sort.reverseLoop i j d=Sort.reverseLoop (i+1) (j - 1) (Sort.swp d i j):=by rw [Sort.reverseLoop,if_pos h]
theorem aE9 {i j:Nat} {d:Array α} (h:¬i < j):Sort.reverseLoop i j d=d:=by rw [Sort.reverseLoop,if_neg h]
theorem uV {p:α→Bool} {d:Array α} {j i:Nat} (h:i≤j) (hp:p d[i]! = true):Sort.scanUp p d j i=Sort.scanUp p d j (i+1):=by
 rw [Sort.scanUp,if_pos (by simp [h,hp])]
theorem aAE {p:α→Bool} {d:Array α} {j i:Nat} (h:¬i≤j∨p d[i]! = false):Sort.scanUp p d j i=i:=by
 rw [Sort.scanUp,if_neg]
 rcases h with h | h
 ·simp [h]
 ·simp [h]
theorem qH {p:α→Bool} {d:Array α} {i j:Nat} (h0:0 < j) (h:i≤j) (hp:p d[j]! = true):Sort.scanDown p d i j=Sort.scanDown p d i (j - 1):=by
 obtain ⟨k,rfl⟩:∃ k,j=k+1:=⟨j - 1,by omega⟩
 rw [Sort.scanDown,if_pos (by simp [h,hp])]
 rfl
theorem tQ {p:α→Bool} {d:Array α} {i j:Nat} (h:¬i≤j∨p d[j]! = false):Sort.scanDown p d i j=j:=by
 cases j with
 | zero=>rfl
 | succ k =>
  rw [Sort.scanDown,if_neg]
  rcases h with h | h
  ·simp [h]
  ·simp [h]
theorem aGT {d:Array α} {a i j:Nat} (h:i≤j) (hl:lt d[i]! d[a]! = true):Sort.scanUp (fun x=>lt x d[a]!) d j i=Sort.scanUp (fun x=>lt x d[a]!) d j (i+1):=uV h hl
theorem aBA {d:Array α} {a i j:Nat} (h:¬i≤j∨lt d[i]! d[a]! = false):Sort.scanUp (fun x=>lt x d[a]!) d j i=i:=aAE h
theorem aGH {d:Array α} {a i j:Nat} (h0:0 < j) (h:i≤j) (hl:lt d[j]! d[a]! = false):Sort.scanDown (fun x=>!lt x d[a]!) d i j=Sort.scanDown (fun x=>!lt x d[a]!) d i (j - 1):=qH h0 h (by simp only [hl]; rfl)
theorem aBY {d:Array α} {a i j:Nat} (h:¬i≤j∨lt d[j]! d[a]! = true):Sort.scanDown (fun x=>!lt x d[a]!) d i j=j:=tQ (h.imp id fun hl=>by simp only [hl]; rfl)
theorem aLT {d:Array α} {a i j:Nat} (h:i≤j) (hl:lt d[a]! d[i]! = false):Sort.scanUp (fun x=>!lt d[a]! x) d j i=Sort.scanUp (fun x=>!lt d[a]! x) d j (i+1):=uV h (by simp only [hl]; rfl)
theorem aJ7 {d:Array α} {a i j:Nat} (h:¬i≤j∨lt d[a]! d[i]! = true):Sort.scanUp (fun x=>!lt d[a]! x) d j i=i:=aAE (h.imp id fun hl=>by simp only [hl]; rfl)
theorem aKV {d:Array α} {a i j:Nat} (h0:0 < j) (h:i≤j) (hl:lt d[a]! d[j]! = true):Sort.scanDown (fun x=>lt d[a]! x) d i j=Sort.scanDown (fun x=>lt d[a]! x) d i (j - 1):=qH h0 h hl
theorem aJK {d:Array α} {a i j:Nat} (h:¬i≤j∨lt d[a]! d[j]! = false):Sort.scanDown (fun x=>lt d[a]! x) d i j=j:=tQ h
def mF (a i j:Nat) (d:Array α):Nat×Array α:=if i > j then (j,d) else Sort.partLoop lt a (i+1) (j - 1) (Sort.swp d i j)
def iZ (a i j:Nat) (d:Array α):Nat×Array α:=if i > j then (i,d) else Sort.partEqLoop lt a (i+1) (j - 1) (Sort.swp d i j)
theorem aAM (a i j:Nat) (d:Array α):Sort.partLoop lt a i j d=mF lt a (Sort.scanUp (fun x=>lt x d[a]!) d j i) (Sort.scanDown (fun x=>!lt x d[a]!) d (Sort.scanUp (fun x=>lt x d[a]!) d j i) j) d:=Sort.partLoop_eq lt a i j d
theorem xH (a i j:Nat) (d:Array α):Sort.partEqLoop lt a i j d=iZ lt a (Sort.scanUp (fun x=>!lt d[a]! x) d j i) (Sort.scanDown (fun x=>lt d[a]! x) d (Sort.scanUp (fun x=>!lt d[a]! x) d j i) j) d:=Sort.partEqLoop_eq lt a i j d
def i4 (a i j:Nat) (d:Array α):Nat×Bool×Array α:=if i > j then (j,true,Sort.swp d j a) else
 ((Sort.partLoop lt a (i+1) (j - 1) (Sort.swp d i j)).1,false,Sort.swp (Sort.partLoop lt a (i+1) (j - 1) (Sort.swp d i j)).2 (Sort.partLoop lt a (i+1) (j - 1) (Sort.swp d i j)).1 a)
theorem t4 (d:Array α) (a b pivot:Nat):Sort.partition lt d a b pivot=i4 lt a (Sort.scanUp (fun x=>lt x (Sort.swp d a pivot)[a]!) (Sort.swp d a pivot) (b - 1) (a+1)) (Sort.scanDown (fun x=>!lt x (Sort.swp d a pivot)[a]!) (Sort.swp d a pivot) (Sort.scanUp (fun x=>lt x (Sort.swp d a pivot)[a]!) (Sort.swp d a pivot) (b - 1) (a+1)) (b - 1)) (Sort.swp d a pivot):=rfl
theorem wU {d:Array α} {b i:Nat} (h:i < b) (hp:lt d[i]! d[i - 1]! = false):Sort.scanSorted lt d b i=Sort.scanSorted lt d b (i+1):=by
 rw [Sort.scanSorted,if_pos (by simp [h,hp])]
theorem pC {d:Array α} {b i:Nat} (h:¬i < b∨lt d[i]! d[i - 1]! = true):Sort.scanSorted lt d b i=i:=by
 rw [Sort.scanSorted,if_neg]
 rcases h with h | h
 ·simp [h]
 ·simp [h]
theorem yG {d:Array α} {j:Nat} (h:0 < j) (hp:lt d[j]! d[j - 1]! = true):Sort.shiftDown lt j d=Sort.shiftDown lt (j - 1) (Sort.swp d j (j - 1)):=by
 obtain ⟨k,rfl⟩:∃ k,j=k+1:=⟨j - 1,by omega⟩
 rw [Sort.shiftDown]
 simp only [Nat.add_sub_cancel] at hp ⊢
 rw [hp]
 rfl
theorem p8 {d:Array α} {j:Nat} (h:j=0∨lt d[j]! d[j - 1]! = false):Sort.shiftDown lt j d=d:=by
 cases j with
 | zero=>rfl
 | succ k =>
  have h:=h.resolve_left (by omega)
  rw [Sort.shiftDown]
  simp only [Nat.add_sub_cancel] at h
  rw [h]
  rfl
theorem aCG {b j:Nat} {d:Array α} (h:j < b) (hp:lt d[j]! d[j - 1]! = true):Sort.shiftUp lt b j d=Sort.shiftUp lt b (j+1) (Sort.swp d j (j - 1)):=by
 rw [Sort.shiftUp,if_pos h,hp]
 rfl
theorem vR {b j:Nat} {d:Array α} (h:¬j < b∨lt d[j]! d[j - 1]! = false):Sort.shiftUp lt b j d=d:=by
 rw [Sort.shiftUp]
 split
 ·rename_i c
  rw [h.resolve_left (not_not_intro c)]
  rfl
 ·rfl
def lV (a b s i:Nat) (d:Array α):Array α×Bool:=if i=b then (d,true) else if b - a < 50 then (d,false) else
 Sort.partialIns lt a b s i (if b - i ≥ 2 then Sort.shiftUp lt b (i+1) (if i - a ≥ 2 then Sort.shiftDown lt (i - 1) (Sort.swp d i (i - 1)) else Sort.swp d i (i - 1)) else if i - a ≥ 2 then Sort.shiftDown lt (i - 1) (Sort.swp d i (i - 1)) else Sort.swp d i (i - 1))
theorem tW (a b s i:Nat) (d:Array α):Sort.partialIns lt a b (s+1) i d=lV lt a b s (Sort.scanSorted lt d b i) d:=rfl
end
theorem aBH {n:Nat} (h:n < 18446744073709551616):IntKind.u64.wrap (n:Int)=(n:Int):=hH (by simp [IntKind.signed]) (by simp [IntKind.signed,IntKind.bits]; omega)
theorem aGK (x k:Nat):IntKind.u64.wrap ((x:Int) * (k:Int))=((x * k % 18446744073709551616:Nat):Int):=by
 simp [IntKind.wrap,IntKind.signed,IntKind.bits]
theorem aAX {x y:Nat} (hx:x < 18446744073709551616) (hy:y < 18446744073709551616):IntKind.u64.wrap ((BitVec.ofInt 64 (x:Int) ^^^ BitVec.ofInt 64 (y:Int)).toNat:Int)=((x ^^^ y:Nat):Int):=by
 have e:(BitVec.ofInt 64 (x:Int) ^^^ BitVec.ofInt 64 (y:Int)).toNat=x ^^^ y:=by
  rw [BitVec.toNat_xor,BitVec.ofInt_natCast,BitVec.ofInt_natCast,BitVec.toNat_ofNat,BitVec.toNat_ofNat,Nat.mod_eq_of_lt (by simpa using hx),Nat.mod_eq_of_lt (by simpa using hy)]
 rw [e]
 exact aBH (Nat.xor_lt_two_pow (n:=64) (by simpa using hx) (by simpa using hy))
theorem aK9 {x y:Nat} (hx:x < 18446744073709551616) (hy:y < 18446744073709551616):IntKind.u64.wrap ((BitVec.ofInt 64 (x:Int) &&& BitVec.ofInt 64 (y:Int)).toNat:Int)=((x &&& y:Nat):Int):=by
 have e:(BitVec.ofInt 64 (x:Int) &&& BitVec.ofInt 64 (y:Int)).toNat=x &&& y:=by
  rw [BitVec.toNat_and,BitVec.ofInt_natCast,BitVec.ofInt_natCast,BitVec.toNat_ofNat,BitVec.toNat_ofNat,Nat.mod_eq_of_lt (by simpa using hx),Nat.mod_eq_of_lt (by simpa using hy)]
 rw [e]
 exact aBH (Nat.lt_of_le_of_lt Nat.and_le_left hx)
theorem y6 {x:Nat} (h:x < 18446744073709551616):aBF x=Sort.xorNextN x:=by
 unfold aBF
 rw [Sort.xorNext_toNat,UInt64.toNat_ofNat',Nat.mod_eq_of_lt (by simpa using h)]
section
variable {α:Type} [Inhabited α]
def gK (l:Array α) (a n m idx:Nat):Nat→UInt64×Array α
 | 0=>(UInt64.ofNat n,l)
 | k+1=>Sort.breakStep a n m (gK l a n m idx k) (idx+k)
theorem aC0 (d:Array α) {a b:Nat} (h:8≤b - a):Sort.breakPatterns d a b=(gK d a (b - a) (1 <<< Sort.bitsLen (b - a)) (a+(b - a) / 4 * 2 - 1) 3).2:=by
 unfold Sort.breakPatterns
 exact if_pos h
theorem aCN (d:Array α) {a b:Nat} (h:¬8≤b - a):Sort.breakPatterns d a b=d:=by
 unfold Sort.breakPatterns
 exact if_neg h
def xX (n m:Nat) (r:UInt64):Nat:=if (r.toNat &&& (m - 1)) ≥ n then (r.toNat &&& (m - 1)) - n else r.toNat &&& (m - 1)
theorem qI (l:Array α) (a n m idx k:Nat):gK l a n m idx (k+1)=(Sort.xorNext (gK l a n m idx k).1,Sort.swp (gK l a n m idx k).2 (idx+k) (a+xX n m (Sort.xorNext (gK l a n m idx k).1))):=rfl
theorem l9 (l:Array α) (a n m idx:Nat):∀ k,(gK l a n m idx k).2.size=l.size
 | 0=>rfl
 | k+1=>by rw [qI,size_swp,l9 l a n m idx k]
end
theorem zH {n:Nat} (h0:0 < n):1≤2 ^ eS n∧2 ^ eS n≤2 * n:=⟨Nat.one_le_two_pow,Sort.two_pow_bitsLen_le h0⟩
theorem aKP {n:Nat} (r:UInt64) (h0:0 < n):xX n (1 <<< Sort.bitsLen n) r < n:=by
 have h1:=zH h0
 unfold xX
 rw [Nat.one_shiftLeft,show Sort.bitsLen n=eS n from rfl]
 have h2:r.toNat &&& (2 ^ eS n - 1)≤2 ^ eS n - 1:=Nat.and_le_right
 split <;> omega
def f194.args (a:Int):List D:=[.int .u64 a]
def f194.blks (a:Int):List (List D):=[]
def f194.res (a:Int):List D:=[.int .i64 (cR a)]
def f194.blks' (a:Int):List (List D):=[]
def f194.C:aP:=FnC f194.args f194.blks (fun a=>eR a) f194.res f194.blks'
set_option linter.unusedVariables false
def f194.kills (a:Int):List Hint:=[]
def f194.cuts (a:Int):List (Nat×Σ β:Type,β→Tm):=[]
def f194.af (a:Int):AF:=AF.mk (.seq (.region [⟨(some 2),0,.move,[.c (.int .i64 (0))],none⟩])
 (.seq (.cond (.c (.bool false)) (.seq (.region [mT 3 1 0,
 oT 4 2 (.conv (.int .u32)) [3],
 oT 5 3 (.call false 220) [4],
 mT 2 7 5])
 (.ret)) (.skip))
 (.seq (.region [mT 6 8 0,
 oT 7 9 (.call false 45) [6],
 mT 2 13 7])
 (.ret))))
 [.tmp 2] 0 7
def f194.env:Env:=[(45,f45.C)]
def f194.tree (a:Int):Prop:=∃ c1:Int,(a=c1)∧(eR c1)∧((cR c1)=(cR a))∧True
def f194.vc (a:Int):Prop:=(eR a∧((cR a)=cR a))
theorem f194.of (a:Int) (h:f194.vc a):f194.tree a:=⟨a,⟨rfl,⟨h.1,⟨h.2,trivial⟩⟩⟩⟩
theorem f194.eq (a:Int):(f194.af a).gives f194.env (f194.args a) (f194.blks a) (f194.res a) (f194.blks' a)=f194.tree a:=by kernel_rfl
def f229.args (a:Int):List D:=[.int .i64 a]
def f229.blks (a:Int):List (List D):=[]
def f229.res (a:Int):List D:=[.int .u64 (mP a)]
def f229.blks' (a:Int):List (List D):=[]
def f229.C:aP:=FnC f229.args f229.blks (fun a=>rZ a) f229.res f229.blks'
def f229.kills (a:Int):List Hint:=[]
def f229.cuts (a:Int):List (Nat×Σ β:Type,β→Tm):=[]
def f229.af (a:Int):AF:=AF.mk (.seq (.region [⟨(some 2),0,.move,[.c (.int .u64 (0))],none⟩])
 (.seq (.region [mT 3 1 0,
 oT 4 2 (.conv (.int .u64)) [3],
 oT 5 3 (.call false 194) [4],
 ⟨(some 6),7,(.bin .shl),[.c (.int .u64 (1)),.t 5],none⟩,
 mT 2 8 6])
 (.ret)))
 [.tmp 2] 0 6
def f229.env:Env:=[(194,f194.C)]
def f229.tree (a:Int):Prop:=Let (IntKind.u64.wrap a) (fun v1:Int=>∃ c2:Int,(v1=c2)∧(eR c2)∧Br (decide ((0:Int)≤(cR c2))) (((IntKind.u64.wrap ((1:Int) * (2 ^ min (Int.toNat (cR c2)) 64)))=(mP a))∧True) False)
def f229.vc (a:Int):Prop:=(0≤a∧a≤18446744073709551615∧(eR a∧(((0:Int)≤(cR a))∧(IntKind.u64.wrap ((1:Int) * (2 ^ min (Int.toNat (cR a)) 64))=mP a))))
theorem f229.of (a:Int) (h:f229.vc a):f229.tree a:=wrapK.u64 h (fun h7 h8 k9=>⟨a,⟨rfl,⟨k9.1,chk k9.2.2 Cnd.dec k9.2.1 (fun h3 k5=>⟨k5,trivial⟩)⟩⟩⟩)
theorem f229.eq (a:Int):(f229.af a).gives f229.env (f229.args a) (f229.blks a) (f229.res a) (f229.blks' a)=f229.tree a:=by kernel_rfl
def f230.args (a:Int):List D:=[.ptr 0 0]
def f230.blks (a:Int):List (List D):=[[.int .u64 a]]
def f230.res (a:Int):List D:=[.int .u64 ((eA a).1)]
def f230.blks' (a:Int):List (List D):=[[.int .u64 ((eA a).2)]]
def f230.C:aP:=FnC f230.args f230.blks (fun a=>oJ a) f230.res f230.blks'
def f230.kills (a:Int):List Hint:=[]
def f230.cuts (a:Int):List (Nat×Σ β:Type,β→Tm):=[]
def f230.af (a:Int):AF:=AF.mk (.seq (.region [⟨(some 2),1,.move,[.c (.int .u64 (0))],none⟩])
 (.seq (.region [mT 3 2 0,
 oT 4 3 .nilCheck [3],
 oT 5 4 (.load false 1) [4],
 mT 6 5 0,
 oT 7 6 .nilCheck [6],
 oT 8 7 (.load false 1) [7],
 ⟨(some 9),8,(.bin .shl),[.t 8,.c (.int .u64 (13))],none⟩,
 oT 10 9 (.bin .xor) [5,9],
 oT 11 10 .nilCheck [3],
 ⟨none,11,(.store 1),[.t 11,.t 10],none⟩])
 (.seq (.region [mT 12 12 0,
 oT 13 13 .nilCheck [12],
 oT 14 14 (.load false 1) [13],
 mT 15 15 0,
 oT 16 16 .nilCheck [15],
 oT 17 17 (.load false 1) [16],
 ⟨(some 18),18,(.bin .shr),[.t 17,.c (.int .u64 (7))],none⟩,
 oT 19 19 (.bin .xor) [14,18],
 oT 20 20 .nilCheck [12],
 ⟨none,21,(.store 1),[.t 20,.t 19],none⟩])
 (.seq (.region [mT 21 22 0,
 oT 22 23 .nilCheck [21],
 oT 23 24 (.load false 1) [22],
 mT 24 25 0,
 oT 25 26 .nilCheck [24],
 oT 26 27 (.load false 1) [25],
 ⟨(some 27),28,(.bin .shl),[.t 26,.c (.int .u64 (17))],none⟩,
 oT 28 29 (.bin .xor) [23,27],
 oT 29 30 .nilCheck [21],
 ⟨none,31,(.store 1),[.t 29,.t 28],none⟩])
 (.seq (.region [mT 30 32 0,
 oT 31 33 .nilCheck [30],
 oT 32 34 (.load false 1) [31],
 mT 2 35 32])
 (.ret))))))
 [.tmp 2] 1 32
def f230.env:Env:=[]
def f230.tree (a:Int):Prop:=Let (Int.fdiv (IntKind.u64.wrap ((BitVec.ofInt 64 a ^^^ BitVec.ofInt 64 (IntKind.u64.wrap (a * 8192))).toNat:Int)) 128) (fun v1:Int=>((IntKind.u64.wrap ((BitVec.ofInt 64 (IntKind.u64.wrap ((BitVec.ofInt 64 (IntKind.u64.wrap ((BitVec.ofInt 64 a ^^^ BitVec.ofInt 64 (IntKind.u64.wrap (a * 8192))).toNat:Int)) ^^^ BitVec.ofInt 64 v1).toNat:Int)) ^^^ BitVec.ofInt 64 (IntKind.u64.wrap ((IntKind.u64.wrap ((BitVec.ofInt 64 (IntKind.u64.wrap ((BitVec.ofInt 64 a ^^^ BitVec.ofInt 64 (IntKind.u64.wrap (a * 8192))).toNat:Int)) ^^^ BitVec.ofInt 64 v1).toNat:Int)) * 131072))).toNat:Int))=((eA a).1))∧((IntKind.u64.wrap ((BitVec.ofInt 64 (IntKind.u64.wrap ((BitVec.ofInt 64 (IntKind.u64.wrap ((BitVec.ofInt 64 a ^^^ BitVec.ofInt 64 (IntKind.u64.wrap (a * 8192))).toNat:Int)) ^^^ BitVec.ofInt 64 v1).toNat:Int)) ^^^ BitVec.ofInt 64 (IntKind.u64.wrap ((IntKind.u64.wrap ((BitVec.ofInt 64 (IntKind.u64.wrap ((BitVec.ofInt 64 a ^^^ BitVec.ofInt 64 (IntKind.u64.wrap (a * 8192))).toNat:Int)) ^^^ BitVec.ofInt 64 v1).toNat:Int)) * 131072))).toNat:Int))=((eA a).2))∧True)
def f230.vc (a:Int):Prop:=((IntKind.u64.wrap ((BitVec.ofInt 64 (IntKind.u64.wrap ((BitVec.ofInt 64 (IntKind.u64.wrap ((BitVec.ofInt 64 a ^^^ BitVec.ofInt 64 (IntKind.u64.wrap (a * 8192))).toNat:Int)) ^^^ BitVec.ofInt 64 ((IntKind.u64.wrap ((BitVec.ofInt 64 a ^^^ BitVec.ofInt 64 (IntKind.u64.wrap (a * 8192))).toNat:Int)) / 128)).toNat:Int)) ^^^ BitVec.ofInt 64 (IntKind.u64.wrap ((IntKind.u64.wrap ((BitVec.ofInt 64 (IntKind.u64.wrap ((BitVec.ofInt 64 a ^^^ BitVec.ofInt 64 (IntKind.u64.wrap (a * 8192))).toNat:Int)) ^^^ BitVec.ofInt 64 ((IntKind.u64.wrap ((BitVec.ofInt 64 a ^^^ BitVec.ofInt 64 (IntKind.u64.wrap (a * 8192))).toNat:Int)) / 128)).toNat:Int)) * 131072))).toNat:Int),IntKind.u64.wrap ((BitVec.ofInt 64 (IntKind.u64.wrap ((BitVec.ofInt 64 (IntKind.u64.wrap ((BitVec.ofInt 64 a ^^^ BitVec.ofInt 64 (IntKind.u64.wrap (a * 8192))).toNat:Int)) ^^^ BitVec.ofInt 64 ((IntKind.u64.wrap ((BitVec.ofInt 64 a ^^^ BitVec.ofInt 64 (IntKind.u64.wrap (a * 8192))).toNat:Int)) / 128)).toNat:Int)) ^^^ BitVec.ofInt 64 (IntKind.u64.wrap ((IntKind.u64.wrap ((BitVec.ofInt 64 (IntKind.u64.wrap ((BitVec.ofInt 64 a ^^^ BitVec.ofInt 64 (IntKind.u64.wrap (a * 8192))).toNat:Int)) ^^^ BitVec.ofInt 64 ((IntKind.u64.wrap ((BitVec.ofInt 64 a ^^^ BitVec.ofInt 64 (IntKind.u64.wrap (a * 8192))).toNat:Int)) / 128)).toNat:Int)) * 131072))).toNat:Int))=eA a)
theorem f230.of (a:Int) (h:f230.vc a):f230.tree a:=tO (by decide) (⟨(congrArg (fun x:Int×Int=>x.1) h :),⟨(congrArg (fun x:Int×Int=>x.2) h :),trivial⟩⟩)
theorem f230.eq (a:Int):(f230.af a).gives f230.env (f230.args a) (f230.blks a) (f230.res a) (f230.blks' a)=f230.tree a:=by kernel_rfl
theorem f194.ok (a:Int) (h:eR a):f194.vc a:=⟨h,rfl⟩
theorem f229.ok (a:Int) (h:rZ a):f229.vc a:=by
 obtain ⟨h1,h2⟩:=h
 refine ⟨h1,by omega,⟨h1,by omega⟩,by unfold cR; omega,?_⟩
 obtain ⟨n,rfl⟩:=Int.eq_ofNat_of_zero_le h1
 have hb:eS n≤21:=(Sort.bitsLen_le_iff n 21).2 (by omega)
 have hp:(2:Nat) ^ eS n≤2 ^ 21:=Nat.pow_le_pow_right (by omega) hb
 unfold cR mP
 simp only [Int.toNat_natCast]
 rw [Nat.min_eq_left (by omega),Int.one_mul]
 have e:((2:Int) ^ eS n)=((2 ^ eS n:Nat):Int):=by simp
 rw [e]
 exact aBH (by omega)
theorem f230.ok (a:Int) (h:oJ a):f230.vc a:=by
 obtain ⟨h1,h2⟩:=h
 obtain ⟨n,rfl⟩:=Int.eq_ofNat_of_zero_le h1
 have hn:n < 18446744073709551616:=by omega
 have m1:n * 8192 % 18446744073709551616 < 18446744073709551616:=Nat.mod_lt _ (by omega)
 have e1:IntKind.u64.wrap ((BitVec.ofInt 64 (n:Int) ^^^ BitVec.ofInt 64 (IntKind.u64.wrap ((n:Int) * 8192))).toNat:Int)=((n ^^^ (n * 8192 % 18446744073709551616):Nat):Int):=by
  have:=aGK n 8192
  rw [show ((8192:Nat):Int)=8192 from rfl] at this
  rw [this]
  exact aAX hn m1
 have l1:n ^^^ (n * 8192 % 18446744073709551616) < 18446744073709551616:=Nat.xor_lt_two_pow (n:=64) (by simpa using hn) (by simpa using m1)
 have hx:eA (n:Int)=(((Sort.xorNextN n:Nat):Int),((Sort.xorNextN n:Nat):Int)):=by
  unfold eA
  rw [Int.toNat_natCast,y6 hn]
 have d1:∀ x:Nat,((x:Int) / 128)=((x / 128:Nat):Int):=fun x=>by omega
 have e2:∀ x:Nat,x < 18446744073709551616→IntKind.u64.wrap ((BitVec.ofInt 64 (x:Int) ^^^ BitVec.ofInt 64 ((x:Int) / 128)).toNat:Int)=((x ^^^ (x / 128):Nat):Int)∧x ^^^ (x / 128) < 18446744073709551616:=fun x hx=>by
  rw [d1]
  exact ⟨aAX hx (by omega),Nat.xor_lt_two_pow (n:=64) (by simpa using hx) (by omega)⟩
 have e3:∀ x:Nat,x < 18446744073709551616→IntKind.u64.wrap ((BitVec.ofInt 64 (x:Int) ^^^ BitVec.ofInt 64 (IntKind.u64.wrap ((x:Int) * 131072))).toNat:Int)=((x ^^^ (x * 131072 % 18446744073709551616):Nat):Int):=fun x hx=>by
  have:=aGK x 131072
  rw [show ((131072:Nat):Int)=131072 from rfl] at this
  rw [this]
  exact aAX hx (Nat.mod_lt _ (by omega))
 obtain ⟨e2a,l2⟩:=e2 _ l1
 unfold f230.vc
 rw [hx,e1,e2a,e3 _ l2]
 rfl
end Go.Abs
