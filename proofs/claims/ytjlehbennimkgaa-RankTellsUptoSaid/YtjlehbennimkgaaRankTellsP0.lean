/- The abstract machine and its soundness. -/
import Derived.Lib.ConvBytes
import Derived.WalkKit
import GoSem.Core.Region
import GoSem.Core.Utf8
import GoSem.Core.View
import GoSem.Machine.Return
import GoSem.Op.String
set_option linter.unusedVariables false
set_option linter.unusedSimpArgs false
namespace Go.Abs
inductive Tag where
 | ro
 | full
 | own (i:Nat)
inductive D where
 | int (k:IntKind) (n:Int)
 | bool (b:Bool)
 | str (s:ByteArray)
 | agg (l:List D)
 | tup (l:List D)
 | slice (t:Tag) (z n:Nat) (g:Nat→List D)
 | ptr (id off:Nat)
 | eptr (l:List D)
 | nilp
 | fn (f:Nat) (cap:List D)
 /-- one of the two bools -/
 | ubool
 /-- a map's entries: n of them,keys (texts) and values; are these aggregates? -/
 | mp (va:Bool) (n:Nat) (ks:Nat→ByteArray) (vs:Nat→List D)
 /-- a map that is not nil: the variable that holds its entries -/
 | mref (id:Nat)
 /-- a result: a pointer to a new variable of these cells -/
 | newp (l:List D)
 /-- a row: n elements of z cells that may be written; w: may it be appended to? -/
 | arr (w:Bool) (z n:Nat) (g:Nat→List D)
 /-- all of the row 'id',while it has n elements -/
 | msl (id z n:Nat)
 /-- into element i of the row 'id' -/
 | rptr (id z n i off:Nat)
 | dead
def nth {α:Type}:List α→Nat→α→α
 | [],_,d=>d
 | a::_,0,_=>a
 | _::l,i+1,d=>nth l i d
def upd {α:Type}:List α→Nat→α→List α
 | [],_,_=>[]
 | _::l,0,b=>b::l
 | a::l,i+1,b=>a::upd l i b
def ag {α:Type}:List (Nat×α)→Nat→Option α
 | [],_=>none
 | (j,a)::l,i=>bif Nat.beq i j then some a else ag l i
def D.cells:D→List D
 | .agg l=>l
 | d=>[d]
def mkv (isAgg:Bool) (l:List D):D:=bif isAgg then .agg l else nth l 0 .dead
def D.ro1:D→D
 | .slice (.own _) z n g=>.slice .ro z n g
 | d=>d
def ros:List D→List D
 | []=>[]
 | d::l=>d.ro1::ros l
def D.ro:D→D
 | .agg l=>.agg (ros l)
 | d=>d.ro1
def D.pure1:D→D
 | .int k n=>.int k n
 | .bool b=>.bool b
 | .str s=>.str s
 | .slice _ z n g=>.slice .ro z n g
 | .nilp=>.nilp
 | _=>.dead
def aV:List D→List D
 | []=>[]
 | d::l=>d.pure1::aV l
def D.pure:D→D
 | .agg l=>.agg (aV l)
 | .fn f l=>.fn f l
 | .eptr l=>.eptr l
 | d=>d.pure1
def eK:List D→Nat→List D→List D
 | cs,_,[]=>cs
 | cs,o,d::ds=>eK (upd cs o d) (o+1) ds
def gA (g:Nat→List D) (n:Nat) (h:Nat→List D):Nat→List D:=fun i=>bif Nat.blt i n then g i else h (i - n)
def aAF (g:Nat→List D) (lo:Nat):Nat→List D:=fun i=>g (i+lo)
def eM:Nat→List D:=fun _=>[]
def oV (s:ByteArray):Nat→List D:=fun i=>[.int .u8 ((nth s.data.toList i 0).toNat:Int)]
def rP:List D→UInt8
 | .int _ n::_=>UInt8.ofNat n.toNat
 | _=>0
def kM (g:Nat→List D):Nat→List UInt8
 | 0=>[]
 | n+1=>kM g n++[rP (g n)]
def t8 (n:Nat) (g:Nat→List D):ByteArray:=⟨(kM g n).toArray⟩
def aEF (n:Nat) (g:Nat→List D):Prop:=∀ i,i < n→∃ b:UInt8,g i=[.int .u8 (b.toNat:Int)]
structure St where
 fr:List D
 /-- variables: does it change no more?,its cells -/
 hp:Nat→Option (Bool×List D)
 /-- tokens: an element's cells,how many elements -/
 tk:Nat→Option (Nat×Nat)
inductive AX where
 | t (i:Nat)
 | c (d:D)
def AX.ev (fr:List D):AX→D
 | .t i=>nth fr i .dead
 | .c d=>d
def evs (fr:List D):List AX→List D
 | []=>[]
 | x::l=>x.ev fr::evs fr l
inductive Cv where
 | int (k:IntKind)
 | s2b
 | b2s
 | same
 /-- a rune's text -/
 | r2s
inductive AOp where
 | move
 | pick
 | alloc (cells:List D)
 | box
 | load (isAgg:Bool) (n:Nat)
 | store (n:Nat)
 | fieldAddr (off:Nat)
 | field (isAgg:Bool) (off n:Nat)
 | indexAddr (sz:Nat) (arr:Option Nat)
 | indexStr
 | indexArr (isAgg:Bool) (sz len:Nat)
 | build (zero:List D) (parts:List (Nat×Nat))
 | buildSlice (sz len:Nat) (zero:List D) (parts:List (Nat×Nat))
 | sliceSl (sz:Nat) (lo hi mx:Bool)
 | sliceStr (lo hi:Bool)
 | sliceArr (sz len np:Nat)
 | len (str:Bool)
 | append (sz bytes:Nat)
 | bin (op:BinOp)
 | binB (neg:Bool)
 | eqAgg (neg:Bool) (codes:List Nat)
 | un (op:UnOp)
 | conv (c:Cv)
 | mkfunc (f np:Nat)
 /-- p: may there be pointers among the arguments? -/
 | call (p:Bool) (f:Nat)
 | callv (p:Bool)
 | extract (i:Nat)
 | makeSlice (zero:List D) (bytes:Nat)
 | nilCheck
 | mnmx (isMax:Bool)
 | nilSl (sz:Nat)
 | iterStr
 | nextStr
 /-- is it nil: p: a pointer; else a slice -/
 | isNil (p neg:Bool)
 /-- maps: a new one; how many entries there are; an entry is set; one is looked for (zero: what there is if there is none) -/
 | mkMap (va lin:Bool)
 | mapLen
 | mapSet
 | mapGet (comma va:Bool) (zero:List D)
 /-- what is not looked at: it must not be come to -/
 | stuck
structure AO where
 dst:Option Nat
 id:Nat
 op:AOp
 args:List AX
 guard:Option (Nat×Bool)
structure Tm where
 fr:List D
 hp:List (Nat×Bool×List D)
 tk:List (Nat×Nat×Nat)
inductive AC:Type 1 where
 | skip
 | region (ops:List AO)
 /-- operations in any of these orders -/
 | orders (l:List (List AO))
 | seq (a b:AC)
 | cond (c:AX) (t e:AC)
 | block (id:Nat) (c:AC)
 /-- u: how many rounds it is unrolled for; at each round's head: slots that are dead,variables and tokens that are kept; the numbers from lo up to hi are the body's own -/
 | loop (u:Nat) (kill mM kO:List Nat) (lo hi:Nat) (c:AC)
 /-- each round's head is told as S x -/
 | loopT (α:Type) (S:α→Tm) (lo hi:Nat) (c:AC)
 /-- here the state is told anew -/
 | cut (α:Type) (S:α→Tm)
 /-- the one,then the other; between them the state is told anew,and what is so of it is all that is known -/
 | joinT (α:Type) (S:α→Tm) (a b:AC)
 /-- a slice whose length is its capacity,in cell j of the variable id: token i is its end from here on -/
 | adopt (i id j:Nat)
 /-- slot t holds a slice without elements whose end is ours: it is the row i from here on -/
 | thaw (i t:Nat)
 /-- slot t's row changes no more -/
 | frz (t:Nat)
 /-- what is not looked at -/
 | stuck
 | exit (id:Nat)
 | ret
inductive AE where
 | normal
 | exit (id:Nat)
 | ret
abbrev aN:=List D→List (List D)→(List D→List (List D)→Prop)→Prop
abbrev Env:=List (Nat×aN)
def D.names1 (lo hi:Nat):D→Bool
 | .ptr j _=>Nat.ble lo j&&Nat.blt j hi
 | .mref j=>Nat.ble lo j&&Nat.blt j hi
 | .msl j _ _=>Nat.ble lo j&&Nat.blt j hi
 | .rptr j _ _ _ _=>Nat.ble lo j&&Nat.blt j hi
 | .slice (.own j) _ _ _=>Nat.ble lo j&&Nat.blt j hi
 | _=>false
def names (lo hi:Nat):List D→Bool
 | []=>false
 | d::l=>bif d.names1 lo hi then true else names lo hi l
def D.names (lo hi:Nat):D→Bool
 | .agg l=>Abs.names lo hi l
 | .tup l=>Abs.names lo hi l
 | d=>d.names1 lo hi
def jQ (lo hi:Nat):List D→Bool
 | []=>false
 | d::l=>bif d.names lo hi then true else jQ lo hi l
structure Upd where
 h:List (Nat×Bool×List D)
 t:List (Nat×Nat×Nat)
def Upd.none:Upd:=⟨[],[]⟩
def eV (hp:Nat→Option (Bool×List D)):List (Nat×Bool×List D)→Nat→Option (Bool×List D)
 | []=>hp
 | (i,e)::l=>eV (fun j=>bif Nat.beq j i then some e else hp j) l
def cX (tk:Nat→Option (Nat×Nat)):List (Nat×Nat×Nat)→Nat→Option (Nat×Nat)
 | []=>tk
 | (i,e)::l=>cX (fun j=>bif Nat.beq j i then some e else tk j) l
def Br (b:Bool) (p q:Prop):Prop :=
 match b with
 | true=>p
 | false=>q
inductive Out where
 | bad
 | ok (v:D) (u:Upd)
 | ask (p:Prop) (v:D) (u:Upd)
 | chk (b:Bool) (v:D) (u:Upd)
 | alt (b:Bool) (v:D) (u:Upd) (v':D) (u':Upd)
def Out.then (o:Out) (k:D→Upd→Prop):Prop :=
 match o with
 | .bad=>False
 | .ok v u=>k v u
 | .ask p v u=>p∧k v u
 | .chk b v u=>Br b (k v u) False
 | .alt b v u v' u'=>Br b (k v u) (k v' u')
def Out.val (v:D):Out:=.ok v Upd.none
def aQ:List D→Bool
 | []=>true
 | .dead::_=>false
 | .agg _::_=>false
 | .tup _::_=>false
 | .mp _ _ _ _::_=>false
 | .mref _::_=>false
 | .newp _::_=>false
 | .arr _ _ _ _::_=>false
 | .msl _ _ _::_=>false
 | .rptr _ _ _ _ _::_=>false
 | _::l=>aQ l
def fill:List D→List (Nat×Nat)→List D→Option (List D)
 | cells,[],[]=>some cells
 | cells,(off,size)::rest,x::xs =>
  bif aQ x.cells&&Nat.beq x.cells.length size&&Nat.ble (off+size) cells.length then fill (eK cells off x.cells) rest xs else none
 | _,_,_=>none
def rep:Nat→List D→List D
 | 0,_=>[]
 | n+1,z=>z++rep n z
def nX (bytes:Nat):Prop:=bytes≤140737488355328
def kJ:IntKind→IntKind→Bool
 | .i8,.i8=>true
 | .i16,.i16=>true
 | .i32,.i32=>true
 | .i64,.i64=>true
 | .u8,.u8=>true
 | .u16,.u16=>true
 | .u32,.u32=>true
 | .u64,.u64=>true
 | _,_=>false
def eqc:Nat→D→D→Option Bool
 | 0,.int k a,.int k' b=>bif kJ k k' then some (a==b) else none
 | 1,.bool a,.bool b=>some (a==b)
 | 2,.str a,.str b=>some (a.toList==b.toList)
 | _,_,_=>none
def aF0:List Nat→List D→List D→Option Bool
 | [],[],[]=>some true
 | [c],[a],[b]=>eqc c a b
 | c::cs,a::l,b::m=>match eqc c a b,aF0 cs l m with
  | some x,some y=>some (x&&y)
  | _,_=>none
 | _,_,_=>none
def mpF (ks:Nat→ByteArray) (key:ByteArray):Nat→Nat
 | 0=>0
 | n+1=>if mpF ks key n < n then mpF ks key n else if ks n=key then n else n+1
def mpN (ks:Nat→ByteArray) (key:ByteArray) (n:Nat):Nat:=if mpF ks key n < n then n else n+1
def m7 (ks:Nat→ByteArray) (key:ByteArray) (n:Nat):Nat→ByteArray:=fun i=>if i=mpF ks key n then key else ks i
def mS (ks:Nat→ByteArray) (vs:Nat→List D) (key:ByteArray) (val:List D) (n:Nat):Nat→List D:=fun i=>if i=mpF ks key n then val else vs i
def D.isAgg:D→Bool
 | .agg _=>true
 | _=>false
def aAE:Bool→Bool→Bool
 | true,true=>true
 | false,false=>true
 | _,_=>false
def aEC:List D→Bool
 | []=>false
 | .slice _ _ _ _::_=>true
 | _::l=>aEC l
def i4:List D→Nat→List D
 | [],_=>[]
 | .slice _ z n g::l,i=>.slice (.own i) z n g::i4 l (i+1)
 | d::l,i=>d.pure1::i4 l (i+1)
def iU:List D→Nat→List (Nat×Nat×Nat)
 | [],_=>[]
 | .slice _ z n _::l,i=>(i,z,n)::iU l (i+1)
 | _::l,i=>iU l (i+1)
def pY (tk:Nat→Option (Nat×Nat)):List D→Option (List (Nat×Nat×Nat)×Prop)
 | []=>some ([],True)
 | .slice (.own j) z n _::l=>match tk j,pY tk l with
  | some (z',n'),some ([],p)=>bif Nat.beq z' z then some ([(j,z,n+1)],n'=n∧p) else none
  | _,_=>none
 | .slice .full _ _ _::l=>pY tk l
 | .slice .ro _ _ _::_=>none
 | _::l=>pY tk l
def vY (tk:Nat→Option (Nat×Nat)) (i:Nat) (k:ByteArray) (v:D):Option (Bool×List D)→Out
 | some (false,[.dead,.mp va n ks vs])=>bif aAE v.isAgg va&&aQ v.cells then
   .ok .dead ⟨[(i,false,[.dead,.mp va (mpN ks k n) (m7 ks k n) (mS ks vs k (aV v.cells) n)])],[]⟩ else .bad
 | some (false,[.str k',.mp true n ks vs])=>bif v.isAgg&&aQ v.cells then
   (match pY tk v.cells with
   | some (u,p)=>.ask (k'=k∧p) .dead ⟨[(i,false,[.nilp,.mp true (mpN ks k n) (m7 ks k n) (mS ks vs k (aV v.cells) n)])],u⟩
   | none=>.bad) else .bad
 | _=>.bad
def tO:Option (Bool×List D)→Out
 | some (false,[_,.mp _ n _ _])=>.val (.int .i64 n)
 | _=>.bad
def nJ (comma va ok:Bool) (l:List D):D:=bif comma then .tup [mkv va (aV l),.bool ok] else mkv va (aV l)
def vP (comma va:Bool) (zero:List D) (id i:Nat) (k:ByteArray):Option (Bool×List D)→Out
 | some (false,[.dead,.mp va' n ks vs])=>bif aAE va' va then .alt (decide (mpF ks k n < n)) (nJ comma va true (vs (mpF ks k n))) Upd.none (nJ comma va false zero) Upd.none else .bad
 | some (false,[.nilp,.mp true n ks vs]) =>
  bif va&&!comma&&aEC zero&&Nat.beq (vs (mpF ks k n)).length zero.length&&Nat.ble (iU (vs (mpF ks k n)) (id+1)).length 1 then
   .alt (decide (mpF ks k n < n)) (.agg (i4 (vs (mpF ks k n)) (id+1))) ⟨[(i,false,[.str k,.mp true n ks vs])],iU (vs (mpF ks k n)) (id+1)⟩ (.agg zero) ⟨[(i,false,[.str k,.mp true n ks vs])],[]⟩ else .bad
 | _=>.bad
def yI (op:BinOp) (k:IntKind) (x y:Int):Out :=
 match op with
 | .add=>.val (.int k (k.wrap (x+y)))
 | .sub=>.val (.int k (k.wrap (x - y)))
 | .mul=>.val (.int k (k.wrap (x * y)))
 | .quo=>.chk (!(y==0)) (.int k (k.wrap (x.tdiv y))) Upd.none
 | .rem=>.chk (!(y==0)) (.int k (x.tmod y)) Upd.none
 | .and=>.val (.int k (k.wrap (BitVec.ofInt k.bits x &&& BitVec.ofInt k.bits y).toNat))
 | .or=>.val (.int k (k.wrap (BitVec.ofInt k.bits x ||| BitVec.ofInt k.bits y).toNat))
 | .xor=>.val (.int k (k.wrap (BitVec.ofInt k.bits x ^^^ BitVec.ofInt k.bits y).toNat))
 | .eql=>.val (.bool (x==y))
 | .neq=>.val (.bool (x != y))
 | .lss=>.val (.bool (decide (x < y)))
 | .leq=>.val (.bool (decide (x≤y)))
 | .gtr=>.val (.bool (decide (y < x)))
 | .geq=>.val (.bool (decide (y≤x)))
 | _=>.bad
def vJ (op:BinOp) (k:IntKind) (x y:Int):Out :=
 match op with
 | .shl=>.chk (decide (0≤y)) (.int k (k.wrap (x * 2 ^ min y.toNat k.bits))) Upd.none
 | .shr=>.chk (decide (0≤y)) (.int k (x.fdiv (2 ^ min y.toNat k.bits))) Upd.none
 | _=>.bad
def aAC (op:BinOp) (x y:ByteArray):Out :=
 match op with
 | .add=>.chk (Nat.ble (x.size+y.size) 9223372036854775807) (.str (x++y)) Upd.none
 | .eql=>.val (.bool (x.toList==y.toList))
 | .neq=>.val (.bool (!(x.toList==y.toList)))
 | .lss=>.val (.bool (Op.bytesLess x.toList y.toList))
 | .leq=>.val (.bool (Op.bytesLess x.toList y.toList || x.toList==y.toList))
 | .gtr=>.val (.bool (!(Op.bytesLess x.toList y.toList || x.toList==y.toList)))
 | .geq=>.val (.bool (!(Op.bytesLess x.toList y.toList)))
 | _=>.bad
def oQ:BinOp→Bool
 | .shl=>true
 | .shr=>true
 | _=>false
def bin (op:BinOp) (x y:D):Out :=
 match x,y with
 | .int k a,.int k' b=>bif oQ op then vJ op k a b else bif kJ k k' then yI op k a b else .bad
 | .str a,.str b=>aAC op a b
 | _,_=>.bad
def un (op:UnOp) (x:D):Out :=
 match op,x with
 | .not,.bool b=>.val (.bool (!b))
 | .neg,.int k n=>.val (.int k (k.wrap (0 - n)))
 | _,_=>.bad
def cQ (isAgg:Bool) (n:Nat) (l:List D):Out :=
 bif Nat.ble n l.length then .val (mkv isAgg (l.take n)) else .bad
def cY:List D→Nat→List D
 | [],_=>[]
 | .slice (.own _) z n g::l,i=>.slice (.own i) z n g::cY l (i+1)
 | d::l,i=>d::cY l (i+1)
def bD:List D→Nat→List (Nat×Nat×Nat)
 | [],_=>[]
 | .slice (.own _) z n _::l,i=>(i,z,n)::bD l (i+1)
 | _::l,i=>bD l (i+1)
def freeze (np:Nat) (hp:Nat→Option (Bool×List D)):List D→Option (List D×List (Nat×Bool×List D))
 | []=>some ([],[])
 | .ptr id off::l=>match hp id,freeze np hp l with
  | some (f,cs),some (ds,u)=>bif (f || aQ cs)&&Nat.ble np id then some (.eptr (aV (cs.drop off))::ds,(id,true,aV cs)::u) else none
  | _,_=>none
 | .fn _ _::_=>none
 | d::l=>match freeze np hp l with
  | some (ds,u)=>bif aQ [d] then some (d.pure::ds,u) else none
  | none=>none
def wU (has:Bool) (l:List D) (dflt:Int):Option (Int×List D) :=
 bif has then (match l with
  | .int _ n::r=>some (n,r)
  | _=>none) else some (dflt,l)
def dZ (id sz bytes:Nat) (tk:Nat→Option (Nat×Nat)) (t:Tag) (z' n:Nat) (g:Nat→List D) (m:Nat) (h:Nat→List D):Out :=
 bif !(Nat.beq z' sz) then .bad else
 match t with
 | .own i=>match tk i with
  | some (z,n')=>bif Nat.beq z sz then .ask (n'=n∧nX ((n+m) * bytes)) (.slice (.own i) sz (n+m) (gA g n h)) ⟨[],[(i,sz,n+m)]⟩ else .bad
  | none=>.bad
 | .full=>.ask (nX ((n+m) * bytes)) (.slice (.own id) sz (n+m) (gA g n h)) ⟨[],[(id,sz,n+m)]⟩
 | .ro=>.bad
def qD (i:Nat):Option (Bool×List D)→Out
 | some (false,[.dead,.str s,.int .i64 p])=>.alt (decide (0≤p)&&decide (p < s.size)) (.tup [.bool true,.int .i64 p,.int .i32 ((Utf8.decode s p.toNat).1:Int)]) ⟨[(i,false,[.dead,.str s,.int .i64 (p+((Utf8.decode s p.toNat).2:Int))])],[]⟩ (.tup [.bool false]) Upd.none
 | _=>.bad
def aJR (p:Prop):Out→Out
 | .ok v u=>.ask p v u
 | _=>.bad
def gset (g:Nat→List D) (i:Nat) (x:List D):Nat→List D:=fun k=>bif Nat.beq k i then x else g k
def p0 (isAgg:Bool) (m z n i o:Nat):Option (Bool×List D)→Out
 | some (false,[.dead,.arr _ z' n' g])=>bif Nat.beq z' z then aJR (n'=n) (cQ isAgg m ((aV (g i)).drop o)) else .bad
 | _=>.bad
def nP (j m z n i o:Nat) (x:D):Option (Bool×List D)→Out
 | some (false,[.dead,.arr w z' n' g])=>bif Nat.beq z' z&&aQ x.cells&&Nat.beq x.cells.length m&&Nat.ble (o+m) z then
   .ask (n'=n) .dead ⟨[(j,false,[.dead,.arr w z' n' (gset g i (bif Nat.beq m z then aV x.cells else eK (g i) o (aV x.cells)))])],[]⟩ else .bad
 | _=>.bad
def rQ (j z n m bytes:Nat) (h:Nat→List D):Option (Bool×List D)→Out
 | some (false,[.dead,.arr true z' n' g])=>bif Nat.beq z' z then .ask (n'=n∧nX ((n+m) * bytes)) (.msl j z (n'+m)) ⟨[(j,false,[.dead,.arr true z' (n'+m) (gA g n' h)])],[]⟩ else .bad
 | _=>.bad
def bC (o:AOp) (id:Nat) (hp:Nat→Option (Bool×List D)) (tk:Nat→Option (Nat×Nat)) (args:List D):Out :=
 match o,args with
 | .move,[x]=>.val x
 | .pick,[.bool c,a,b]=>.val (bif c then a else b)
 | .alloc cells,[]=>bif aQ cells then .ok (.ptr id 0) ⟨[(id,false,cY cells (id+1))],bD cells (id+1)⟩ else .bad
 | .box,[x]=>bif aQ x.cells then .ok (.ptr id 0) ⟨[(id,false,x.cells)],[]⟩ else .bad
 | .load isAgg n,[.ptr i off]=>match hp i with
  | some (f,cs)=>bif f || aQ cs then cQ isAgg n (cs.drop off) else .bad
  | none=>.bad
 | .load isAgg n,[.eptr l]=>cQ isAgg n (aV l)
 | .store n,[.ptr i off,x]=>match hp i with
  | some (false,cs)=>bif !(aQ cs) then .bad else bif aQ x.cells&&Nat.beq x.cells.length n&&Nat.ble (off+n) cs.length then .ok .dead ⟨[(i,false,eK cs off x.cells)],[]⟩ else .bad
  | _=>.bad
 | .fieldAddr off,[.ptr i o]=>.val (.ptr i (o+off))
 | .fieldAddr off,[.eptr l]=>.val (.eptr (l.drop off))
 | .field isAgg off n,[.agg l]=>cQ isAgg n (l.drop off)
 | .indexAddr sz none,[.slice _ z n g,.int _ i]=>bif !(Nat.beq z sz) then .bad else .chk (decide (0≤i)&&decide (i < n)) (.eptr (g i.toNat)) Upd.none
 | .indexAddr sz (some len),[.ptr j off,.int _ i]=>.chk (decide (0≤i)&&decide (i < len)) (.ptr j (off+i.toNat * sz)) Upd.none
 | .indexAddr sz (some len),[.eptr l,.int _ i]=>.chk (decide (0≤i)&&decide (i < len)) (.eptr (l.drop (i.toNat * sz))) Upd.none
 | .indexStr,[.str b,.int _ i]=>.chk (decide (0≤i)&&decide (i < b.size)) (.int .u8 ((nth b.data.toList i.toNat 0).toNat:Int)) Upd.none
 | .indexArr isAgg sz len,[.agg l,.int _ i]=>match cQ isAgg sz (l.drop (i.toNat * sz)) with
  | .ok v u=>.chk (decide (0≤i)&&decide (i < len)) v u
  | _=>.bad
 | .build zero parts,xs=>match fill zero parts xs with
  | some l=>.val (.agg (ros l))
  | none=>.bad
 | .buildSlice sz len zero parts,xs=>match fill (rep len zero) parts xs with
  | some l=>bif Nat.beq zero.length sz&&aQ l then .val (.slice .full sz len (bif Nat.beq len 1 then fun _=>aV l else fun i=>((aV l).drop (i * sz)).take sz)) else .bad
  | none=>.bad
 | .sliceSl sz lo hi mx,.slice _ z n g::r=>bif !(Nat.beq z sz) then .bad else match wU lo r 0 with
  | some (l,r)=>match wU hi r n with
   | some (h,r)=>match wU mx r h with
    | some (m,[])=>.chk (decide (0≤l)&&decide (l≤h)&&decide (h≤n)&&(m==h)) (.slice (bif mx then .full else .ro) z (h - l).toNat (aAF g l.toNat)) Upd.none
    | _=>.bad
   | none=>.bad
  | none=>.bad
 | .sliceStr lo hi,.str b::r=>match wU lo r 0 with
  | some (l,r)=>match wU hi r b.size with
   | some (h,[])=>.chk (decide (0≤l)&&decide (l≤h)&&decide (h≤b.size)) (.str (b.extract l.toNat h.toNat)) Upd.none
   | _=>.bad
  | none=>.bad
 | .sliceArr sz len np,[.ptr i off]=>match hp i with
  | some (f,cs)=>bif !(f || aQ cs) then .bad else bif Nat.ble (off+len * sz) cs.length&&Nat.ble np i then .ok (.slice .ro sz len (fun j=>((aV cs).drop (off+j * sz)).take sz)) ⟨[(i,true,aV cs)],[]⟩ else .bad
  | none=>.bad
 | .sliceArr sz len _,[.eptr l]=>bif Nat.ble (len * sz) l.length then .val (.slice .ro sz len (fun j=>((aV l).drop (j * sz)).take sz)) else .bad
 | .len false,[.slice _ _ n _]=>.val (.int .i64 n)
 | .len true,[.str b]=>.val (.int .i64 b.size)
 | .append sz bytes,[.slice t z n g,.slice _ z' m h]=>bif Nat.beq z' sz then dZ id sz bytes tk t z n g m h else .bad
 | .append sz bytes,[.slice t z n g,.str b]=>bif Nat.beq sz 1 then dZ id sz bytes tk t z n g b.size (oV b) else .bad
 | .bin op,[x,y]=>bin op x y
 | .binB neg,[.bool a,.bool b]=>.val (.bool (bif neg then !(a==b) else a==b))
 | .eqAgg neg codes,[.agg l,.agg m]=>match aF0 codes l m with
  | some b=>.val (.bool (bif neg then !b else b))
  | none=>.bad
 | .un op,[x]=>un op x
 | .conv (.int kd),[.int _ n]=>.val (.int kd (kd.wrap n))
 | .conv .s2b,[.str b]=>.val (.slice .ro 1 b.size (oV b))
 | .conv .b2s,[.slice _ _ n g]=>.ask (aEF n g) (.str (t8 n g)) Upd.none
 | .conv .same,[.str b]=>.val (.str b)
 | .conv .r2s,[.int _ n]=>.val (.str (Utf8.encode n))
 | .mkfunc f np,xs=>match freeze np hp xs with
  | some (ds,u)=>.ok (.fn f ds) ⟨u,[]⟩
  | none=>.bad
 | .extract i,[.tup l]=>bif Nat.blt i l.length then .val (nth l i .dead) else .bad
 | .makeSlice zero bytes,[.int _ l,.int _ c]=>bif !(aQ zero) then .bad else .ask (0≤l∧l≤c∧nX (c.toNat * bytes)) (.slice (.own id) zero.length l.toNat (fun _=>zero)) ⟨[],[(id,zero.length,l.toNat)]⟩
 | .nilCheck,[.ptr i off]=>.val (.ptr i off)
 | .nilCheck,[.eptr l]=>.val (.eptr l)
 | .mnmx isMax,[.int kd a,.int _ b]=>.val (.int kd (bif isMax then (bif decide (a < b) then b else a) else (bif decide (b < a) then b else a)))
 | .nilSl sz,[]=>.ok (.slice (.own id) sz 0 eM) ⟨[],[(id,sz,0)]⟩
 | .iterStr,[.str s]=>.ok (.ptr id 0) ⟨[(id,false,[.dead,.str s,.int .i64 0])],[]⟩
 | .nextStr,[.ptr i 0]=>qD i (hp i)
 | .mkMap va lin,[]=>.ok (.mref id) ⟨[(id,false,[bif va&&lin then .nilp else .dead,.mp va 0 (fun _=>.empty) eM])],[]⟩
 | .mapLen,[.mref i]=>tO (hp i)
 | .mapSet,[.mref i,.str k,v]=>vY tk i k v (hp i)
 | .mapGet comma va zero,[.mref i,.str k]=>vP comma va zero id i k (hp i)
 | .isNil true neg,[.nilp]=>.val (.bool (!neg))
 | .isNil true neg,[.ptr _ _]=>.val (.bool neg)
 | .isNil true neg,[.eptr _]=>.val (.bool neg)
 | .isNil false neg,[.slice _ _ n _]=>.alt (Nat.beq n 0) .ubool Upd.none (.bool neg) Upd.none
 | .len false,[.msl _ _ n]=>.val (.int .i64 n)
 | .indexAddr sz none,[.msl j z n,.int _ i]=>bif !(Nat.beq z sz) then .bad else .chk (decide (0≤i)&&decide (i < n)) (.rptr j z n i.toNat 0) Upd.none
 | .fieldAddr off,[.rptr j z n i o]=>.val (.rptr j z n i (o+off))
 | .nilCheck,[.rptr j z n i o]=>.val (.rptr j z n i o)
 | .load isAgg m,[.rptr j z n i o]=>p0 isAgg m z n i o (hp j)
 | .store m,[.rptr j z n i o,x]=>nP j m z n i o x (hp j)
 | .append sz bytes,[.msl j z n,.slice _ z' m h]=>bif !(Nat.ble 1000000 id&&Nat.beq z sz&&Nat.beq z' sz) then .bad else rQ j z n m bytes h (hp j)
 | _,_=>.bad
def ptrs:List D→List Nat
 | []=>[]
 | .ptr id _::l=>id::ptrs l
 | .msl id _ _::l=>id::ptrs l
 | _::l=>ptrs l
def qB:List D→Bool
 | []=>true
 | .ptr _ _::_=>false
 | .msl _ _ _::_=>false
 | _::l=>qB l
def mU:List D→Nat→List D
 | [],_=>[]
 | .ptr _ off::l,j=>.ptr j off::mU l (j+1)
 | .msl _ z n::l,j=>.msl j z n::mU l (j+1)
 | d::l,j=>d.pure::mU l j
def cM:List D→Bool
 | [.dead,.arr _ _ _ _]=>true
 | _=>false
def gM (w:Bool):List D→List D
 | [.dead,.arr _ z n g]=>[.dead,.arr w z n g]
 | cs=>aV cs
def okB (cs:List D):Bool:=aQ cs || cM cs
def dN (hp:Nat→Option (Bool×List D)):List Nat→Option (List (List D))
 | []=>some []
 | id::l=>match hp id,dN hp l with
  | some (false,cs),some r=>bif okB (gM false cs) then some (gM false cs::r) else none
  | _,_=>none
def rV:List (List D)→Bool
 | []=>true
 | cs::l=>okB cs&&rV l
def flg (hp:Nat→Option (Bool×List D)) (id:Nat):Bool :=
 match hp id with
 | some (_,[.dead,.arr w _ _ _])=>w
 | _=>false
def pX:List (List D)→List (List D)→Bool
 | [],[]=>true
 | b::l,c::m=>okB (gM false c)&&aAE (cM b) (cM c)&&pX l m
 | _,_=>false
def bW (hp:Nat→Option (Bool×List D)):List Nat→List (List D)→List (Nat×Bool×List D)
 | id::l,cs::r=>(id,false,gM (flg hp id) cs)::bW hp l r
 | _,_=>[]
def eB:List Nat→Bool
 | []=>true
 | a::l=>bif l.any (Nat.beq a) then false else eB l
def lP:List D→D
 | [d]=>d
 | l=>.tup l
def aI7:List D→Bool
 | []=>true
 | .tup _::_=>false
 | .ptr _ _::_=>false
 | .eptr _::_=>false
 | .fn _ _::_=>false
 | _::l=>aI7 l
def D.res:D→D
 | .agg c=>.agg (aV c)
 | .slice (.own i) z n g=>.slice (.own i) z n g
 | d=>d.pure1
def bJ:List D→List D
 | []=>[]
 | d::l=>d.res::bJ l
def iI (id:Nat) (ids:List Nat) (hp:Nat→Option (Bool×List D)) (bs:List (List D)) (rs:List D) (bs':List (List D)):Out :=
 match rs with
 | [.newp l]=>.chk (pX bs bs'&&aQ (aV l)) (.ptr id 0) ⟨bW hp ids bs'++[(id,false,aV l)],[]⟩
 | rs=>.chk (aI7 rs&&Nat.ble rs.length 4&&pX bs bs') (lP (cY (bJ rs) id)) ⟨bW hp ids bs',bD (bJ rs) id⟩
def t4:List D→Option Nat
 | [.dead,.arr _ _ m _]=>some m
 | _=>none
def oW:List D→List (List D)→Prop→Prop
 | [],_,k=>k
 | .ptr _ _::l,bs,k=>Br (cM (bs.headD [])) False (oW l bs.tail k)
 | .msl _ _ n::l,bs,k=>match t4 (bs.headD []) with
  | some m=>n=m∧oW l bs.tail k
  | none=>False
 | _::l,bs,k=>oW l bs k
def gD (C:aN) (id:Nat) (vs:List D) (hp:Nat→Option (Bool×List D)) (k:D→Upd→Prop):Prop :=
 match dN hp (ptrs vs) with
 | some bs=>Br (eB (ptrs vs)) (oW vs bs (C (mU vs 0) bs (fun rs bs'=>(iI id (ptrs vs) hp bs rs bs').then k))) False
 | none=>False
def step (E:Env) (o:AOp) (id:Nat) (hp:Nat→Option (Bool×List D)) (tk:Nat→Option (Nat×Nat)) (args:List D) (k:D→Upd→Prop):Prop :=
 match o with
 | .call p f=>match ag E f with
  | some C=>bif p then gD C id args hp k else Br (qB args) (gD C id args hp k) False
  | none=>False
 | .callv p=>match args with
  | .fn f cap::r=>match ag E f with
   | some C=>bif p then gD C id (r++cap) hp k else Br (qB (r++cap)) (gD C id (r++cap) hp k) False
   | none=>False
  | _=>False
 | o=>(bC o id hp tk args).then k
def f8 (dst:Option Nat) (v:D) (fr:List D):List D :=
 match dst with
 | some d=>upd fr d v
 | none=>fr
def aHA:List D→Nat→D→(List D→Prop)→Prop
 | [],_,_,k=>k []
 | _::l,0,b,k=>k (b::l)
 | a::l,i+1,b,k=>aHA l i b fun l'=>k (a::l')
def aG0 (dst:Option Nat) (v:D) (fr:List D) (k:List D→Prop):Prop :=
 match dst with
 | some d=>aHA fr d v k
 | none=>k fr
def aIQ (E:Env) (o:AO) (s:St) (k:St→Prop):Prop :=
 step E o.op o.id s.hp s.tk (evs s.fr o.args) (fun v u=>aG0 o.dst v s.fr fun fr=>k ⟨fr,eV s.hp u.h,cX s.tk u.t⟩)
def gOp (E:Env) (o:AO) (s:St) (k:St→Prop):Prop :=
 match o.guard with
 | none=>aIQ E o s k
 | some (j,w)=>match nth s.fr j .dead with
  | .bool b=>Br b
    (aHA s.fr j (.bool true) fun fr=>Br w (aIQ E o ⟨fr,s.hp,s.tk⟩ k) (aG0 o.dst (.tup []) fr fun fr=>k ⟨fr,s.hp,s.tk⟩))
    (aHA s.fr j (.bool false) fun fr=>Br w (aG0 o.dst (.tup []) fr fun fr=>k ⟨fr,s.hp,s.tk⟩) (aIQ E o ⟨fr,s.hp,s.tk⟩ k))
  | .tup []=>aG0 o.dst (.tup []) s.fr fun fr=>k ⟨fr,s.hp,s.tk⟩
  | _=>False
def lL (E:Env):List AO→St→(St→Prop)→Prop
 | [],s,k=>k s
 | o::l,s,k=>gOp E o s (fun s'=>lL E l s' k)
def rJ (E:Env):List (List AO)→St→(St→Prop)→Prop
 | [],_,_=>False
 | [l],s,k=>lL E l s k
 | l::r,s,k=>lL E l s k∧rJ E r s k
def kills (ks:List Nat) (fr:List D):List D :=
 match ks with
 | []=>fr
 | i::l=>kills l (upd fr i .dead)
def mM (hp:Nat→Option (Bool×List D)):List Nat→List (Nat×Bool×List D)
 | []=>[]
 | i::l=>match hp i with
  | some e=>(i,e)::mM hp l
  | none=>mM hp l
def kO (tk:Nat→Option (Nat×Nat)):List Nat→List (Nat×Nat×Nat)
 | []=>[]
 | i::l=>match tk i with
  | some e=>(i,e)::kO tk l
  | none=>kO tk l
def jV (lo hi:Nat):List (Nat×Bool×List D)→Bool
 | []=>false
 | (i,_,cs)::l=>bif Nat.ble lo i&&Nat.blt i hi then true else bif names lo hi cs then true else jV lo hi l
def j4 (lo hi:Nat):List (Nat×Nat×Nat)→Bool
 | []=>false
 | (i,_)::l=>bif Nat.ble lo i&&Nat.blt i hi then true else j4 lo hi l
inductive DEq:D→D→Prop
 | refl (d:D):DEq d d
 | dead (d:D):DEq d .dead
 | slice (t t':Tag) (z n:Nat) (g h:Nat→List D):(t'=t∨t'=.ro)→(∀ i,i < n→(g i).length=(h i).length)→(∀ i,i < n→∀ j,DEq (nth (g i) j .dead) (nth (h i) j .dead))→DEq (.slice t z n g) (.slice t' z n h)
 | agg (l l':List D):l.length=l'.length→(∀ j,DEq (nth l j .dead) (nth l' j .dead))→DEq (.agg l) (.agg l')
 | eptr (l l':List D):l.length=l'.length→(∀ j,DEq (nth l j .dead) (nth l' j .dead))→DEq (.eptr l) (.eptr l')
 | fn (f:Nat) (l l':List D):l.length=l'.length→(∀ j,DEq (nth l j .dead) (nth l' j .dead))→DEq (.fn f l) (.fn f l')
 | mp (va:Bool) (n:Nat) (ks ks':Nat→ByteArray) (vs vs':Nat→List D):(∀ i,i < n→ks i=ks' i)→(∀ i,i < n→(vs i).length=(vs' i).length)→(∀ i,i < n→∀ j,DEq (nth (vs i) j .dead) (nth (vs' i) j .dead))→DEq (.mp va n ks vs) (.mp va n ks' vs')
 | newp (l l':List D):l.length=l'.length→(∀ j,DEq (nth l j .dead) (nth l' j .dead))→DEq (.newp l) (.newp l')
 | arr (w:Bool) (z n:Nat) (g h:Nat→List D):(∀ i,i < n→(g i).length=(h i).length)→(∀ i,i < n→∀ j,DEq (nth (g i) j .dead) (nth (h i) j .dead))→DEq (.arr w z n g) (.arr w z n h)
def DEqs (l l':List D):Prop:=l.length=l'.length∧∀ j,DEq (nth l j .dead) (nth l' j .dead)
theorem DEqs.refl (l:List D):DEqs l l:=⟨rfl,fun _=>.refl _⟩
theorem DEqs.nil:DEqs [] []:=DEqs.refl _
theorem DEqs.cons {d d':D} {l l':List D} (h:DEq d d') (e:DEqs l l'):DEqs (d::l) (d'::l') :=
 ⟨by simp [e.1],fun j=>by cases j with
  | zero=>exact h
  | succ j=>exact e.2 j⟩
def gl {α:Type} [Inhabited α] (enc:α→List D) (l:List α):Nat→List D:=fun i=>enc (l.getD i default)
def aI5:Tag→Tag→Bool
 | _,.ro=>true
 | .full,.full=>true
 | .own i,.own j=>Nat.beq i j
 | _,_=>false
def fN (d d':D) (k:Prop):Prop :=
 match d' with
 | .dead=>k
 | .int kd m=>match d with
  | .int kd' n=>Br (kJ kd' kd) (n=m∧k) False
  | _=>False
 | .bool b=>match d with
  | .bool b'=>b'=b∧k
  | _=>False
 | .str s=>match d with
  | .str s'=>s'=s∧k
  | _=>False
 | .slice t z m h=>match d with
  | .slice t' z' n g=>Br (aI5 t' t&&Nat.beq z' z) (n=m∧(∀ i,i < m→DEqs (g i) (h i))∧k) False
  | _=>False
 | .ptr i o=>match d with
  | .ptr i' o'=>Br (Nat.beq i' i&&Nat.beq o' o) k False
  | _=>False
 | .eptr l=>match d with
  | .eptr l'=>DEqs l' l∧k
  | _=>False
 | .nilp=>match d with
  | .nilp=>k
  | _=>False
 | .mref i=>match d with
  | .mref i'=>Br (Nat.beq i' i) k False
  | _=>False
 | .mp va m ks vs=>match d with
  | .mp va' n ks' vs'=>Br (aAE va' va) (n=m∧(∀ i,i < m→ks' i=ks i)∧(∀ i,i < m→DEqs (vs' i) (vs i))∧k) False
  | _=>False
 | .newp l=>match d with
  | .newp l'=>DEqs l' l∧k
  | _=>False
 | .arr w z m h=>match d with
  | .arr w' z' n g=>Br (aAE w' w&&Nat.beq z' z) (n=m∧(∀ i,i < m→DEqs (g i) (h i))∧k) False
  | _=>False
 | .msl i z m=>match d with
  | .msl i' z' n=>Br (Nat.beq i' i&&Nat.beq z' z) (n=m∧k) False
  | _=>False
 | .rptr i z m e o=>match d with
  | .rptr i' z' n e' o'=>Br (Nat.beq i' i&&Nat.beq z' z&&Nat.beq o' o) (n=m∧e'=e∧k) False
  | _=>False
 | .fn f l=>match d with
  | .fn f' l'=>Br (Nat.beq f' f) (DEqs l' l∧k) False
  | _=>False
 | _=>False
def nT:List D→List D→Prop→Prop
 | [],[],k=>k
 | d::l,d'::l',k=>fN d d' (nT l l' k)
 | _,_,_=>False
def aGU (d d':D) (k:Prop):Prop :=
 match d' with
 | .agg l'=>match d with
  | .agg l=>nT l l' k
  | _=>False
 | d'=>fN d d' k
def oZ:List D→List D→Prop→Prop
 | [],[],k=>k
 | d::l,d'::l',k=>aGU d d' (oZ l l' k)
 | _,_,_=>False
def sY:List (List D)→List (List D)→Prop→Prop
 | [],[],k=>k
 | c::l,c'::l',k=>nT c c' (sY l l' k)
 | _,_,_=>False
def aGJ:Bool→Bool→Bool
 | true,true=>true
 | false,false=>true
 | _,_=>false
def rU:List D→Bool
 | [.dead,.str _,.int .i64 _]=>true
 | _=>false
def aFF:List D→Bool
 | [_,.mp _ _ _ _]=>true
 | _=>false
def hpK (hp:Nat→Option (Bool×List D)):List (Nat×Bool×List D)→Prop→Prop
 | [],k=>k
 | (i,f,cs)::l,k=>match hp i with
  | some (f',cs')=>Br ((f || (aQ cs&&aQ cs') || (rU cs&&rU cs') || (aFF cs&&aFF cs') || (cM cs&&cM cs'))&&aGJ f' f) (nT cs' cs (hpK hp l k)) False
  | none=>False
def tkK (tk:Nat→Option (Nat×Nat)):List (Nat×Nat×Nat)→Prop→Prop
 | [],k=>k
 | (i,z,n)::l,k=>match tk i with
  | some (z',n')=>Br (Nat.beq z' z) (n'=n∧tkK tk l k) False
  | none=>False
def wN (t:Tm):St:=⟨t.fr,ag t.hp,ag t.tk⟩
def lH {α:Type} (S:α→Tm) (lo hi:Nat) (s:St) (k:α→Prop):Prop :=
 ∃ x,Br (jQ lo hi (S x).fr || jV lo hi (S x).hp || j4 lo hi (S x).tk) False (oZ s.fr (S x).fr (hpK s.hp (S x).hp (tkK s.tk (S x).tk (k x))))
def ro1K (lo hi:Nat):D→D
 | .slice (.own j) z n g=>.slice (bif Nat.ble lo j&&Nat.blt j hi then .ro else .own j) z n g
 | d=>d
def yU (lo hi:Nat):List D→List D
 | []=>[]
 | d::l=>ro1K lo hi d::yU lo hi l
def iG (kill kh kt:List Nat) (lo hi:Nat) (s:St) (k:St→Prop):Prop :=
 Br (jQ lo hi (yU lo hi (kills kill s.fr)) || jV lo hi (mM s.hp kh) || j4 lo hi (kO s.tk kt)) False
  (k ⟨yU lo hi (kills kill s.fr),ag (mM s.hp kh),ag (kO s.tk kt)⟩)
def xT (H:St→(St→Prop)→Prop) (F:(AE→St→Prop)→St→Prop) (Q:AE→St→Prop):Nat→St→Prop
 | 0,_=>False
 | n+1,s=>F (fun e s'=>match e with
  | .normal=>H s' (xT H F Q n)
  | .exit j=>Q (.exit j) s'
  | .ret=>Q .ret s') s
def aER (N:St→Prop) (Q:AE→St→Prop):AE→St→Prop
 | .normal,s=>N s
 | .exit j,s=>Q (.exit j) s
 | .ret,s=>Q .ret s
def aJO {α:Type} (S:α→Tm) (lo hi:Nat) (R:α→Prop) (Q:AE→St→Prop):AE→St→Prop
 | .normal,s=>lH S lo hi s R
 | .exit j,s=>Q (.exit j) s
 | .ret,s=>Q .ret s
def aIR (id:Nat) (Q:AE→St→Prop):AE→St→Prop
 | .normal,s=>Q .normal s
 | .exit j,s=>Br (Nat.beq j id) (Q .normal s) (Q (.exit j) s)
 | .ret,s=>Q .ret s
def vL (i id j:Nat) (s:St) (k:St→Prop):Prop :=
 match s.hp id with
 | some (false,cs)=>match nth cs j .dead with
  | .slice .full z n g=>Br (aQ cs) (k ⟨s.fr,eV s.hp [(id,false,upd cs j (.slice (.own i) z n g))],cX s.tk [(i,z,n)]⟩) False
  | _=>False
 | _=>False
def aEW (i t:Nat) (s:St):Option St :=
 match nth s.fr t .dead with
 | .slice (.own j) z 0 _=>match s.tk j with
  | some (z',0)=>bif Nat.beq z' z then some ⟨upd s.fr t (.msl i z 0),eV s.hp [(i,false,[.dead,.arr true z 0 eM])],fun q=>bif Nat.beq q j then none else s.tk q⟩ else none
  | _=>none
 | _=>none
def aA4 (i t:Nat) (s:St) (k:St→Prop):Prop :=
 match aEW i t s with
 | some s'=>k s'
 | none=>False
def aIN (t:Nat) (s:St):Option (Prop×St) :=
 match nth s.fr t .dead with
 | .msl i z n=>match s.hp i with
  | some (false,[.dead,.arr true z' n' g])=>bif Nat.beq z' z then some (n'=n,⟨upd s.fr t (.slice .ro z n' g),eV s.hp [(i,true,[])],s.tk⟩) else none
  | _=>none
 | _=>none
def aHP (t:Nat) (s:St) (k:St→Prop):Prop :=
 match aIN t s with
 | some (p,s')=>p∧k s'
 | none=>False
def aev (E:Env):AC→(AE→St→Prop)→St→Prop
 | .skip,Q,s=>Q .normal s
 | .region ops,Q,s=>lL E ops s (Q .normal)
 | .orders l,Q,s=>rJ E l s (Q .normal)
 | .seq a b,Q,s=>aev E a (aER (aev E b Q) Q) s
 | .cond c t e,Q,s=>match c.ev s.fr with
  | .bool b=>Br b (aev E t Q s) (aev E e Q s)
  | .ubool=>aev E t Q s∧aev E e Q s
  | _=>False
 | .block id c,Q,s=>aev E c (aIR id Q) s
 | .loop n ks kh kt lo hi c,Q,s=>iG ks kh kt lo hi s (xT (iG ks kh kt lo hi) (aev E c) Q n)
 | .loopT α S lo hi c,Q,s=>∃ (I:α→Prop) (μ:α→Nat),lH S lo hi s I∧∀ y,I y→aev E c (aJO S lo hi (fun z=>I z∧μ z < μ y) Q) (wN (S y))
 | .stuck,_,_=>False
 | .adopt i id j,Q,s=>vL i id j s (Q .normal)
 | .thaw i t,Q,s=>aA4 i t s (Q .normal)
 | .frz t,Q,s=>aHP t s (Q .normal)
 | .joinT α S a b,Q,s=>∃ I:α→Prop,aev E a (aER (fun s'=>lH S 0 0 s' I) Q) s∧∀ y,I y→aev E b Q (wN (S y))
 | .cut _ S,Q,s=>lH S 0 0 s fun x=>Q .normal (wN (S x))
 | .exit id,Q,s=>Q (.exit id) s
 | .ret,Q,s=>Q .ret s
inductive RV where
 | tmp (t:Nat)
 | cell (a:Nat) (isAgg:Bool) (n:Nat)
def iE (tk:Nat→Option (Nat×Nat)) (v:D) (k:D→(Nat→Option (Nat×Nat))→Prop):Prop :=
 match v with
 | .slice (.own i) z n g=>match tk i with
  | some (z',n')=>bif Nat.beq z z' then n'=n∧k (.slice (.own 0) z n g) (fun j=>bif Nat.beq j i then none else tk j) else False
  | none=>k (.slice .ro z n g) tk
 | .agg l=>k (.agg (aV l)) tk
 | v=>k v.pure1 tk
def sD (fr:List D) (hp:Nat→Option (Bool×List D)):List RV→(Nat→Option (Nat×Nat))→(List D→Prop)→Prop
 | [],_,k=>k []
 | .tmp t::l,tk,k=>iE tk (nth fr t .dead) fun v tk=>sD fr hp l tk fun vs=>k (v::vs)
 | .cell a isAgg n::l,tk,k=>match nth fr a .dead with
  | .ptr id off=>match hp id with
   | some (f,cs)=>Br (f || aQ cs) ((cQ isAgg n (cs.drop off)).then fun v _=>iE tk v fun v tk=>sD fr hp l tk fun vs=>k (v::vs)) False
   | none=>False
  | _=>False
def m4 (rs:List RV) (ps:List Nat) (s:St) (k:List D→Prop):Prop :=
 match rs with
 | [.tmp t]=>match nth s.fr t .dead with
  | .ptr id 0=>match s.hp id with
   | some (false,cs)=>Br (aQ cs&&!(ps.any (Nat.beq id))) (k [.newp (aV cs)]) False
   | _=>False
  | _=>sD s.fr s.hp rs s.tk k
 | _=>sD s.fr s.hp rs s.tk k
def dG (hp:Nat→Option (Bool×List D)):List Nat→(List (List D)→Prop)→Prop
 | [],k=>k []
 | id::l,k=>match hp id with
  | some (false,cs)=>Br (okB cs) (dG hp l fun bs=>k (gM false cs::bs)) False
  | _=>False
inductive DEqB:List (List D)→List (List D)→Prop
 | nil:DEqB [] []
 | cons {c c':List D} {l l':List (List D)}:DEqs c c'→DEqB l l'→DEqB (c::l) (c'::l')
def aCU (K:List D→List (List D)→Prop) (vs:List D) (bs:List (List D)):Prop:=∃ vs' bs',DEqs vs vs'∧DEqB bs bs'∧K vs' bs'
def RP (rs:List RV) (ps:List Nat) (K:List D→List (List D)→Prop):AE→St→Prop
 | .exit _,_=>False
 | .normal,s=>m4 rs ps s fun vs=>dG s.hp ps fun bs=>aCU K vs bs
 | .ret,s=>m4 rs ps s fun vs=>dG s.hp ps fun bs=>aCU K vs bs
def nA:Nat→List (List D)→List (Nat×Bool×List D)
 | _,[]=>[]
 | i,b::bs=>(i,false,b)::nA (i+1) bs
def dd:Nat→List D→List D
 | 0,l=>l
 | n+1,l=>.dead::dd n l
def aBJ:Nat→List D
 | 0=>[]
 | n+1=>.dead::aBJ n
def init (vs:List D) (bs:List (List D)) (more:Nat):St :=
 { fr:=vs++aBJ more,hp:=ag (nA 0 bs),tk:=fun _=>none }
def aE5:Nat→List Nat
 | 0=>[]
 | n+1=>aE5 n++[n]
structure AF where
 body:AC
 results:List RV
 ptrs:Nat
 more:Nat
def RG (rs:List RV) (ps:List Nat) (vs':List D) (bs':List (List D)):AE→St→Prop
 | .exit _,_=>False
 | .normal,s=>m4 rs ps s fun vs=>dG s.hp ps fun bs=>oZ vs vs' (sY bs bs' True)
 | .ret,s=>m4 rs ps s fun vs=>dG s.hp ps fun bs=>oZ vs vs' (sY bs bs' True)
def AF.gives (E:Env) (f:AF) (vs:List D) (bs:List (List D)) (vs':List D) (bs':List (List D)):Prop :=
 aev E f.body (RG f.results (aE5 f.ptrs) vs' bs') (init vs bs f.more)
def FnC {α:Type} (args:α→List D) (blks:α→List (List D)) (pre:α→Prop) (res:α→List D) (blks':α→List (List D)):aN :=
 fun vs bs K=>∃ a,Br (rV (blks a)) (oZ vs (args a) (sY bs (blks a) (pre a∧K (res a) (blks' a)))) False
def noB {α:Type}:α→List (List D):=fun _=>[]
def AF.runs (E:Env) (f:AF) (K:List D→List (List D)→Prop) (vs:List D) (bs:List (List D)):Prop :=
 aev E f.body (RP f.results (aE5 f.ptrs) K) (init vs bs f.more)
end Go.Abs
namespace Go.Abs
abbrev FT:=List (Nat×Nat)
def i3:Value→Option D
 | .bool b=>some (.bool b)
 | .int k n=>some (.int k n)
 | .string s=>some (.str s)
 | .pointer none=>some .nilp
 | .slice none 0 0=>some (.slice .full 0 0 eM)
 | _=>none
def dM:List Value→Option (List D)
 | []=>some []
 | v::l=>match i3 v,dM l with
  | some d,some ds=>some (d::ds)
  | _,_=>none
def ofValue:Value→Option D
 | .agg cs=>(dM cs.toList).map .agg
 | v=>i3 v
def cB (P:Program) (t:TypeId):Option Bool :=
 match P.underlying t with
 | some (.struct _)=>some true
 | some (.array _ _)=>some true
 | some _=>some false
 | none=>none
def cT (P:Program) (t:TypeId):Option Nat:=(P.info? t).map (·.size)
def vV (P:Program) (t:TypeId):Option (List D) :=
 match P.info? t with
 | some i=>match i.zero with
  | some z=>dM z.cells.toList
  | none=>none
 | none=>none
def gH (P:Program):Nat→TypeId→List Nat
 | 0,_=>[]
 | d+1,t=>match P.underlying t with
  | some (.struct fs)=>fs.toList.flatMap fun f=>gH P d f.type
  | some (.array n e)=>(List.replicate n (gH P d e)).flatten
  | some (.slice e)=>[P.cellsOf e]
  | _=>[0]
def gJ:List D→List Nat→List D
 | [],_=>[]
 | .slice _ _ n g::l,z::zs=>.slice (.own 0) z n g::gJ l zs
 | d::l,zs=>d::gJ l (zs.drop 1)
def aAV (z:Nat):D→D
 | .slice .full _ 0 g=>.slice .full z 0 g
 | d=>d
def f7:List D→List Nat→List D
 | [],_=>[]
 | d::l,[]=>aAV 0 d::f7 l []
 | d::l,z::zs=>aAV z d::f7 l zs
def vS (P:Program) (t:TypeId):Option (Bool×List D) :=
 match P.info? t with
 | some i=>match i.zero with
  | some (.agg cs)=>(dM cs.toList).map fun l=>(true,f7 l (gH P 20 t))
  | some v=>(i3 v).map fun d=>(false,f7 [d] (gH P 20 t))
  | none=>none
 | none=>none
def aG5 (P:Program) (t:TypeId):Option (Bool×List D) :=
 match P.underlying t with
 | some (.map k e)=>match P.underlying k with
  | some .string=>vS P e
  | _=>none
 | _=>none
def aLO (P:Program) (t:TypeId):TypeId :=
 match P.underlying t with
 | some (.map _ e)=>e
 | _=>t
section
variable (P:Program) (ft:FT) (np:Nat)
def trX:Operand→Option AX
 | .tmp t=>some (.t t)
 | .const v=>(ofValue v).map .c
 | .func f=>(ag ft f).map fun j=>.c (.fn j [])
 | .global _=>none
def lO:List Operand→Option (List AX)
 | []=>some []
 | x::l=>match trX ft x,lO l with
  | some a,some as=>some (a::as)
  | _,_=>none
def trZ (P:Program) (t:TypeId):AX→AX
 | .c (.agg l)=>.c (.agg (f7 l (gH P 20 t)))
 | .c (.slice .full z 0 g)=>.c (.slice .full ((gH P 20 t).headD z) 0 g)
 | a=>a
def m3 (P:Program):List Operand→List TypeId→Option (List AX)
 | [],_=>some []
 | x::l,ts=>match trX ft x,m3 P l (ts.drop 1) with
  | some a,some as=>some ((match x,ts with
   | .const (.slice none 0 0),t::_=>.c (.slice .full ((match P.underlying t with
    | some (.slice e)=>cT P e
    | _=>none).getD 0) 0 eM)
   | _,t::_=>trZ P t a
   | _,_=>a)::as)
  | _,_=>none
def yF:List (Option Operand)→Option (List AX)
 | []=>some []
 | none::l=>yF l
 | some x::l=>match trX ft x,yF l with
  | some a,some as=>some (a::as)
  | _,_=>none
def jP (place:Nat→Option (Nat×Nat)):List (Nat×Operand)→Option (List (Nat×Nat))
 | []=>some []
 | (i,_)::l=>match place i,jP place l with
  | some q,some r=>some (q::r)
  | _,_=>none
def lW:Operand→Bool
 | .const (.slice none 0 0)=>true
 | _=>false
def vQ:Operand→Bool
 | .const (.pointer none)=>true
 | _=>false
def aEP (op:BinOp) (p isNil:Bool) (l:List AX):Option (AOp×List AX) :=
 match l with
 | [a,_]=>bif isNil then (match op with
  | .eql=>some (.isNil p false,[a])
  | .neq=>some (.isNil p true,[a])
  | _=>none) else none
 | _=>none
def aHJ (t:TypeId):Option Nat :=
 match P.underlying t with
 | some (.slice e)=>cT P e
 | _=>none
def mC (d:TypeDesc):Bool :=
 match d with
 | .slice _=>true
 | .string=>true
 | _=>false
def jZ (P:Program) (rec:TypeId→Option (List Nat)):List Field→Nat→Option (List Nat)
 | [],_=>some []
 | f :: l,at_ => if f.name ≠ "_" ∧ f.offset = at_ then (match rec f.type with
  | some m=>if cT P f.type=some m.length then (jZ P rec l (at_+m.length)).map (m++·) else none
  | none=>none) else none
def iZ (P:Program):Nat→TypeId→Option (List Nat)
 | 0,_=>none
 | d+1,t=>match P.underlying t with
  | some (.struct fs)=>if P.stoodInHeld t then none else jZ P (iZ P d) fs.toList 0
  | some (.array n e)=>match iZ P d e with
   | some m=>if cT P e=some m.length then some (List.replicate n m).flatten else none
   | none=>none
  | some .bool=>some [1]
  | some (.int _)=>some [0]
  | some .string=>some [2]
  | _=>none
def aKE (P:Program) (fs:Array Field):Bool:=fs.toList.all fun f=>(cT P f.type).isSome
def eJ:AOp→Bool
 | .call _ _ | .callv _=>true
 | _=>false
def zY (ty:TypeId) (x:Operand):Option (AOp×List AX) :=
 if lW x then (aHJ P ty).map fun z=>(.nilSl z,[]) else (trX ft x).map fun a=>(.move,[trZ P ty a])
def yK (t:TypeId) (parts:Array (Nat×Operand)):Option (AOp×List AX) :=
 match P.underlying t,vV P t,lO ft (parts.toList.map (·.2)) with
 | some (.struct fs),some z,some l=>if aKE P fs then (jP (fun i=>match fs[i]? with
   | some f=>(cT P f.type).map fun n=>(f.offset,n)
   | none=>none) parts.toList).map fun ps=>(.build (f7 z (gH P 20 t)) ps,l) else none
 | some (.array _ e),some z,some l=>match cT P e with
  | some n=>(jP (fun i=>some (i * n,n)) parts.toList).map fun ps=>(.build (f7 z (gH P 20 t)) ps,l)
  | none=>none
 | _,_,_=>none
def l9 (t:TypeId) (len:Nat) (parts:Array (Nat×Operand)):Option (AOp×List AX) :=
 match P.underlying t,lO ft (parts.toList.map (·.2)) with
 | some (.slice e),some l=>match cT P e,vV P e with
  | some n,some z=>if len * n≤16777216∧0 < n then (jP (fun i=>some (i * n,n)) parts.toList).map fun ps=>(.buildSlice n len (f7 z (gH P 20 e)) ps,l) else none
  | _,_=>none
 | _,_=>none
def nR (s:TypeId) (x:Operand) (f:Nat):Option (AOp×List AX) :=
 match P.underlying s,trX ft x with
 | some (.struct fs),some x=>match fs[f]? with
  | some f=>match cT P f.type with
   | some n=>if n=0 then none else some (.fieldAddr f.offset,[x])
   | none=>none
  | none=>none
 | _,_=>none
def zX (s:TypeId) (x:Operand) (f:Nat):Option (AOp×List AX) :=
 match P.underlying s,trX ft x with
 | some (.struct fs),some x=>match fs[f]? with
  | some f=>match cB P f.type,cT P f.type with
   | some g,some n=>if g || n==1 then some (.field g f.offset n,[x]) else none
   | _,_=>none
  | none=>none
 | _,_=>none
def nS (t:TypeId) (x i:Operand):Option (AOp×List AX) :=
 match P.underlying t,trX ft x,trX ft i with
 | some (.slice e),some x,some i=>(cT P e).map fun n=>(.indexAddr n none,[x,i])
 | some (.array len e),some x,some i=>(cT P e).map fun n=>(.indexAddr n (some len),[x,i])
 | _,_,_=>none
def y8 (t:TypeId) (x i:Operand):Option (AOp×List AX) :=
 match P.underlying t,trX ft x,trX ft i with
 | some .string,some x,some i=>some (.indexStr,[x,i])
 | some (.array len e),some x,some i=>match cB P e,cT P e with
  | some g,some n=>if g || n==1 then some (.indexArr g n len,[x,i]) else none
  | _,_=>none
 | _,_,_=>none
def yJ (t:TypeId) (x:Operand) (lo hi mx:Option Operand):Option (AOp×List AX) :=
 match P.underlying t,trX ft x,yF ft [lo,hi,mx] with
 | some (.slice e),some a,some l=>if mx.isSome&&hi.isNone then none else (cT P e).map fun n=>(.sliceSl n lo.isSome hi.isSome mx.isSome,a::l)
 | some .string,some a,some l=>if mx.isSome then none else some (.sliceStr lo.isSome hi.isSome,a::l)
 | some (.array len e),some a,some _=>if lo.isNone&&hi.isNone&&mx.isNone then (cT P e).map fun n=>(.sliceArr n len np,[a]) else none
 | _,_,_=>none
def aIE (op:BinOp) (t:TypeId) (l:List AX):Option (AOp×List AX) :=
 match (if P.eqGuardType P.depth t then none else iZ P 20 t),op with
 | some n,.eql=>if cT P t=some n.length then some (.eqAgg false n,l) else none
 | some n,.neq=>if cT P t=some n.length then some (.eqAgg true n,l) else none
 | _,_=>none
def aH1 (op:BinOp) (t:TypeId) (x y:Operand):Option (AOp×List AX) :=
 match lO ft [x,y] with
 | some l=>match P.underlying t with
  | some (.struct _)=>aIE P op t l
  | some (.array _ _)=>aIE P op t l
  | some .bool=>match op with
   | .eql=>some (.binB false,l)
   | .neq=>some (.binB true,l)
   | _=>none
  | some .string=>some (.bin op,l)
  | some (.int _)=>some (.bin op,l)
  | some (.slice _)=>aEP op false (lW y) l
  | some (.pointer _)=>aEP op true (vQ y) l
  | _=>none
 | _=>none
def aDC (src dst:TypeId) (x:Operand):Option (AOp×List AX) :=
 match P.underlying src,P.underlying dst,trX ft x with
 | some (.int _),some (.int k),some x=>some (.conv (.int k),[x])
 | some .string,some .string,some x=>some (.conv .same,[x])
 | some (.int _),some .string,some x=>some (.conv .r2s,[x])
 | some .string,some (.slice e),some x=>(match P.underlying e with
  | some (.int .u8)=>some (.conv .s2b,[x])
  | _=>none)
 | some (.slice e),some .string,some x=>(match P.underlying e with
  | some (.int .u8)=>some (.conv .b2s,[x])
  | _=>none)
 | _,_,_=>none
def pO (fn:Fn) (first caps:Array Operand):Option (AOp×List AX) :=
 match fn with
 | .func f=>if first.isEmpty then (match ag ft f,lO ft caps.toList with
  | some j,some cs=>some (.mkfunc j np,cs)
  | _,_=>none) else none
 | _=>none
def n4 (t:TypeId) (l c:Operand):Option (AOp×List AX) :=
 match P.underlying t with
 | some (.slice e)=>match P.info? e,vV P e,lO ft [l,c] with
  | some i,some z,some l=>if 0 < i.size∧0 < i.bytes∧z.length=i.size then some (.makeSlice z i.bytes,l) else none
  | _,_,_=>none
 | _=>none
def aED (x:Operand) (t:TypeId):Option (AOp×List AX) :=
 match P.underlying t,trX ft x with
 | some (.slice _),some x=>some (.len false,[x])
 | some .string,some x=>some (.len true,[x])
 | some (.map _ _),some x=>some (.mapLen,[x])
 | _,_=>none
def q6 (x y:Operand) (t u:TypeId):Option (AOp×List AX) :=
 match P.underlying t,P.underlying u,m3 ft P [x,y] [t,u] with
 | some (.slice e),some du,some l=>(match mC du,P.info? e,vV P e with
  | true,some i,some z=>if 0 < i.size∧0 < i.bytes∧z.length=i.size then some (.append i.size i.bytes,l) else none
  | _,_,_=>none)
 | _,_,_=>none
def oJ (b:Builtin) (args:List Operand) (ts:List TypeId):Option (AOp×List AX) :=
 match b,args,ts with
 | .len,[x],[t]=>aED P ft x t
 | .append,[x,y],[t,u]=>q6 P ft x y t u
 | .max,[x,y],_=>(lO ft [x,y]).map fun l=>(.mnmx true,l)
 | .min,[x,y],_=>(lO ft [x,y]).map fun l=>(.mnmx false,l)
 | _,_,_=>none
def zS (P:Program) (rows:Bool) (ts:List TypeId):Bool:=ts.any fun t=>match P.underlying t with
 | some (.pointer _)=>true
 | some (.slice _)=>rows
 | _=>false
def aAY (P:Program) (rows:Bool) (f:FuncId) (ts:List TypeId):Bool:=zS P rows ts || match P.funcs[f]? with
 | some fn=>zS P false fn.params.toList
 | none=>false
def r8 (c:Call):Option (AOp×List AX) :=
 match c.callee with
 | .value (.func f)=>match ag ft f,m3 ft P c.args.toList c.argTypes.toList with
  | some j,some as=>some (.call (aAY P (Nat.ble 1000000 np) f c.argTypes.toList) j,as)
  | _,_=>none
 | .value (.tmp t)=>(lO ft c.args.toList).map fun as=>(.callv (zS P (Nat.ble 1000000 np) c.argTypes.toList),.t t::as)
 | .builtin b=>oJ P ft b c.args.toList c.argTypes.toList
 | _=>none
def aCW (t:TypeId) (x:Operand):Option (AOp×List AX) :=
 match trX ft x,cB P t,cT P t with
 | some a,some g,some n=>if g || n==1 then some (.load g n,[a]) else none
 | _,_,_=>none
def yE (t:TypeId) (x y:Operand):Option (AOp×List AX) :=
 match trX ft x,trX ft y,cT P t with
 | some a,some x,some n=>some (.store n,[a,trZ P t x])
 | _,_,_=>none
def yS (t:TypeId):Option (AOp×List AX) :=
 match vV P t,cT P t with
 | some cells,some n=>if cells.length=n then some (.alloc (gJ cells (gH P 20 t)),[]) else none
 | _,_=>none
def aEH (t:TypeId) (x:Operand):Option (AOp×List AX) :=
 match P.underlying t,trX ft x with
 | some .string,some a=>some (.iterStr,[a])
 | _,_=>none
def rD (t:TypeId) (m k x:Operand):Option (AOp×List AX) :=
 match aG5 P t,trX ft m,trX ft k,trX ft x with
 | some _,some a,some b,some c=>some (.mapSet,[a,b,trZ P (aLO P t) c])
 | _,_,_,_=>none
def aCL (t:TypeId) (m k:Operand) (comma:Bool):Option (AOp×List AX) :=
 match aG5 P t,trX ft m,trX ft k with
 | some (g,z),some a,some b=>some (.mapGet comma g z,[a,b])
 | _,_,_=>none
def x0 (t:TypeId) (r:Option Operand):Option (AOp×List AX) :=
 match aG5 P t,r with
 | some (g,z),none=>some (.mkMap g (aEC z),[])
 | _,_=>none
def aEU (o:Oper):Option (AOp×List AX) :=
 match o.op with
 | .move x=>zY P ft o.type x
 | .assign x=>zY P ft o.type x
 | .pick c a b=>(lO ft [c,a,b]).map fun l=>(.pick,l)
 | .alloc t=>yS P t
 | .box _ x=>(trX ft x).map fun a=>(.box,[a])
 | .build t parts=>yK P ft t parts
 | .buildSlice t len parts=>l9 P ft t len parts
 | .load t a=>aCW P ft t a
 | .store t a x=>yE P ft t a x
 | .fieldAddr s x f=>nR P ft s x f
 | .field s x f=>zX P ft s x f
 | .indexAddr t x i=>nS P ft t x i
 | .index t x i=>y8 P ft t x i
 | .slice t x lo hi mx=>yJ P ft np t x lo hi mx
 | .binOp op t x y _=>aH1 P ft op t x y
 | .unOp op _ x=>(trX ft x).map fun a=>(.un op,[a])
 | .convert src dst x=>aDC P ft src dst x
 | .makeFunc fn first caps=>pO ft np fn first caps
 | .makeSlice t l c=>n4 P ft t l c
 | .nilCheck x=>(trX ft x).map fun a=>(.nilCheck,[a])
 | .extract x i=>(trX ft x).map fun a=>(.extract i,[a])
 | .range t x=>aEH P ft t x
 | .makeMap t r=>x0 P t r
 | .mapUpdate t m k x=>rD P ft t m k x
 | .insert t m k x=>rD P ft t m k x
 | .lookup t m k c=>aCL P ft t m k c
 | .next x isString=>bif isString then (trX ft x).map fun a=>(.nextStr,[a]) else none
 | .call c=>r8 P ft np c
 | _=>none
def zF (o:Option (AOp×List AX)):Option (AOp×List AX) :=
 match o with
 | some p=>some p
 | none=>some (.stuck,[])
def aCZ (o:Oper):Option (AOp×List AX) :=
 match o.op with
 | .call c=>zF (r8 P ft np c)
 | _=>match aEU P ft np o with
  | some p=>bif eJ p.1 then none else some p
  | none=>some (.stuck,[])
def bV:AOp→Nat
 | .alloc cells=>1+cells.length
 | .mapGet _ true z=>1+z.length
 | .call _ _=>4
 | .callv _=>4
 | _=>1
def vW:D→Bool
 | .agg _=>false
 | .tup _=>false
 | .ptr _ _=>false
 | .slice (.own _) _ _ _=>false
 | .mref _=>false
 | .msl _ _ _=>false
 | .rptr _ _ _ _ _=>false
 | _=>true
def aAI:D→Bool
 | .agg l=>l.all vW
 | d=>vW d
def nD:AX→Bool
 | .t _=>true
 | .c d=>aAI d
def kN:AOp→Bool
 | .alloc cells=>cells.all fun d=>match d with
  | .slice _ _ _ _=>true
  | d=>vW d
 | .build z _=>z.all vW
 | .mapGet _ g z=>z.all vW&&(g || Nat.beq z.length 1)
 | _=>true
def trG (ops:Array Oper):Option (Nat×Bool)→Option (Option (Nat×Bool))
 | none=>some none
 | some (j,w)=>match (ops[j]?).bind (·.dst) with
  | some d=>some (some (d,w))
  | none=>none
def uL (ops:Array Oper):List Oper→Nat→Option (List AO×Nat)
 | [],at_=>some ([],at_)
 | o::l,at_=>match aCZ P ft np o,trG ops o.guard with
  | some (a,xs),some g=>bif kN a&&xs.all nD then (match uL ops l (at_+bV a) with
   | some (as,n)=>some ({ dst:=o.dst,id:=at_,op:=a,args:=xs,guard:=g }::as,n)
   | none=>none) else none
  | _,_=>none
end
def tR:AOp→Bool
 | .alloc _ | .box | .load _ _ | .store _ | .sliceArr _ _ _ | .append _ _ | .mkfunc _ _ | .call _ _ | .callv _ | .makeSlice _ _ | .nilSl _ | .iterStr | .nextStr | .mkMap _ _ | .mapLen | .mapSet | .mapGet _ _ _=>false
 | _=>true
def aDZ:AOp→Bool
 | .store _ | .sliceArr _ _ _ | .mkfunc _ _ | .call true _ | .callv true | .nextStr | .mapSet=>true
 | .mapGet _ true z=>aEC z
 | _=>false
def jI:AOp→Bool
 | .append _ _=>true
 | _=>false
def kL (op:AOp) (id:Nat):Bool:=aDZ op || (jI op&&Nat.ble 1000000 id)
def AX.slots:List AX→List Nat
 | []=>[]
 | .t i::l=>i::AX.slots l
 | .c _::l=>AX.slots l
def AO.reads (o:AO):List Nat :=
 match o.guard with
 | some (j,_)=>j::AX.slots o.args
 | none=>AX.slots o.args
def AO.writes (o:AO):List Nat :=
 match o.dst with
 | some d=>[d]
 | none=>[]
def mN (a b:List Nat):Bool:=a.any fun i=>b.any fun j=>i==j
def yC (a b:AO):Bool :=
 !(mN a.writes b.reads)&&!(mN a.writes b.writes)&&!(mN a.reads b.writes) &&
 !(eJ a.op&&eJ b.op)&&!(jI a.op&&jI b.op)&&(tR a.op || tR b.op || (!kL a.op a.id&&!kL b.op b.id))
def jT (ops:Array Oper):Nat→Nat→Nat→Bool
 | 0,_,_=>false
 | f+1,i,q=>match ops[i]? with
  | some o=>o.after.toList.any fun e=>Region.binds .any e&&(e.on==q || (decide (q < e.on)&&jT ops f e.on q))
  | none=>false
def gC:List Oper→Nat→Bool
 | [],_=>true
 | o::l,i=>(o.after.toList.all fun e=>!Region.binds .any e || decide (e.on < i))&&gC l (i+1)
def tP (ops:Array Oper) (as:List AO):Bool :=
 gC ops.toList 0&&as.zipIdx.all fun (b,j)=>as.zipIdx.all fun (a,i)=>!(decide (i < j)) || yC a b || jT ops ops.size j i
def bef:List Nat→Nat→Nat→Bool
 | [],_,_=>false
 | a::l,x,y=>bif Nat.beq a x then l.any (Nat.beq y) else bef l x y
def iM (as:List AO) (i j:Nat):Bool :=
 match as[i]?,as[j]? with
 | some a,some b=>yC a b
 | _,_=>true
def jB (ops:Array Oper) (as:List AO):List (Nat×Nat) :=
 (List.range ops.size).flatMap fun j=>((List.range ops.size).filter fun i=>decide (i < j)&&!iM as i j&&!jT ops ops.size j i).map fun i=>(i,j)
def aHW:Nat→List (List Bool)
 | 0=>[[]]
 | n+1=>(aHW n).flatMap fun l=>[false::l,true::l]
def nU:List (Nat×Nat)→List Bool→Nat→Nat→Bool
 | (i,j)::c,b::l,x,y=>bif Nat.beq i x&&Nat.beq j y then b else nU c l x y
 | _,_,_,_=>false
def qP (ops:Array Oper) (as:List AO) (C:List (Nat×Nat)) (S:List Bool) (a b:Nat):Bool :=
 bif Nat.blt a b then !iM as a b&&(jT ops ops.size b a || !nU C S a b)
 else Nat.blt b a&&(!iM as b a&&!jT ops ops.size a b&&nU C S b a)
def tJ (pr:Nat→Nat→Bool):Nat→List Nat→List Nat×List Nat
 | 0,left=>([],left)
 | f+1,left=>match left.find? fun i=>left.all fun j=>!pr j i with
  | none=>([],left)
  | some i=>let r:=tJ pr f (left.filter fun j=>!Nat.beq j i); (i::r.1,r.2)
def oE:List Nat→Bool
 | []=>true
 | a::l=>!(l.any (Nat.beq a))&&oE l
def aEG (ops:Array Oper) (as:List AO) (C:List (Nat×Nat)) (S:List Bool) (r:List Nat×List Nat):Bool :=
 match r.2 with
 | []=>(List.range ops.size).all (fun i=>r.1.any (Nat.beq i))&&oE r.1&&r.1.all (fun i=>Nat.blt i ops.size)&&(List.range ops.size).all fun a=>(List.range ops.size).all fun b=>!qP ops as C S a b || bef r.1 a b
 | left=>left.all (fun i=>Nat.blt i ops.size)&&left.all fun i=>left.any fun j=>qP ops as C S j i
def zM (ops:Array Oper) (as:List AO):List (List Bool×(List Nat×List Nat)) :=
 let C:=jB ops as
 (aHW C.length).map fun S=>(S,tJ (qP ops as C S) ops.size (List.range ops.size))
def kR (ops:Array Oper) (as:List AO):Bool :=
 gC ops.toList 0&&Nat.ble (jB ops as).length 6&&(zM ops as).all fun r=>aEG ops as (jB ops as) r.1 r.2
def qA (ops:Array Oper) (as:List AO):List (List AO) :=
 ((zM ops as).filter fun r=>r.2.2.isEmpty).map fun r=>r.2.1.filterMap fun i=>as[i]?
section
variable (P:Program) (ft:FT) (np:Nat)
inductive Hint:Type 1 where
 | unroll (u:Nat) (kill mM kO:List Nat)
 | tell (α:Type) (S:α→Tm)
structure TS:Type 1 where
 /-- for each loop,in the text's order -/
 kills:List Hint
 /-- behind the first part of which seq's (counted in the text's order) the state is told anew -/
 cuts:List (Nat×Σ α:Type,α→Tm)
 at_:Nat
 seqs:Nat
def pW (k j:Nat):Bool:=Nat.ble 1000000 j&&Nat.blt j 1000000000000&&Nat.beq (j % 1000000) k
def tZ (k j:Nat):Bool:=Nat.ble 1000000000000 j&&Nat.blt j 2000000000000&&Nat.beq (j % 1000000) k
def aHE (k j:Nat):Bool:=Nat.ble 2000000000000 j&&Nat.beq (j % 1000000) k
def aHN (j:Nat):Nat:=(j / 1000000) % 1000000
def aJP (k:Nat) (l:List (Nat×Σ α:Type,α→Tm)):List (Nat×Σ α:Type,α→Tm) :=
 match l with
 | (j,_)::r=>bif Nat.beq j k || Nat.beq j (100000+k) || pW k j || tZ k j || aHE k j then r else l
 | []=>[]
def nK (k:Nat) (l:List (Nat×Σ α:Type,α→Tm)) (n:Nat):Nat :=
 match l with
 | (j,_)::_=>bif pW k j || tZ k j then n+1 else n
 | []=>n
def aHO (k:Nat) (l:List (Nat×Σ α:Type,α→Tm)) (n:Nat) (x y:AC):AC :=
 match l with
 | (j,c)::_=>bif Nat.beq j k then .seq x (.seq (.cut c.1 c.2) y) else bif Nat.beq j (100000+k) then .joinT c.1 c.2 x y else bif pW k j then .seq x (.seq (.adopt n ((j / 1000000 - 1) / 1000) ((j / 1000000 - 1) % 1000)) y) else bif tZ k j then .seq x (.seq (.thaw n (aHN j)) y) else bif aHE k j then .seq x (.seq (.frz (aHN j)) y) else .seq x y
 | []=>.seq x y
def trC:Code→TS→Option (AC×TS)
 | .skip,s=>some (.skip,s)
 | .region _ ops draw,s=>match uL P ft np ops ops.toList s.at_ with
  | some (as,n)=>bif draw&&!tP ops as then (bif kR ops as then some (.orders (qA ops as),{ s with at_:=n }) else none) else some (.region as,{ s with at_:=n })
  | none=>none
 | .seq a b,s=>match trC a { s with seqs:=s.seqs+1 } with
  | some (x,s1)=>match trC b { s1 with cuts:=aJP s.seqs s1.cuts,at_:=nK s.seqs s1.cuts s1.at_ } with
   | some (y,s2)=>some (aHO s.seqs s1.cuts s1.at_ x y,s2)
   | none=>none
  | none=>none
 | .cond c t e,s=>match trX ft c,trC t s with
  | some c,some (x,s)=>match trC e s with
   | some (y,s)=>some (.cond c x y,s)
   | none=>none
  | _,_=>none
 | .block id c,s=>match trC c s with
  | some (x,s)=>some (.block id x,s)
  | none=>none
 | .loop c,s=>match s.kills with
  | .unroll u k kh kt::r=>match trC c { s with kills:=r } with
   | some (x,s')=>some (.loop u k kh kt s.at_ s'.at_ x,s')
   | none=>none
  | .tell α S::r=>match trC c { s with kills:=r } with
   | some (x,s')=>some (.loopT α S s.at_ s'.at_ x,s')
   | none=>none
  | []=>none
 | .exit id,s=>some (.exit id,s)
 | .ret,s=>some (.ret,s)
 | .scope c,s=>trC c s
 | .label _,s=>some (.skip,s)
 | .goto _,s=>some (.stuck,s)
 | .rangeFunc ..,s=>some (.stuck,s)
 | .refuse ..,s=>some (.stuck,s)
def aD2 (rv:ResultVar):Option RV :=
 match rv with
 | .tmp t=>some (.tmp t)
 | .cell a t=>match cB P t,cT P t with
  | some g,some n=>if g || n==1 then some (.cell a g n) else none
  | _,_=>none
def rF:List ResultVar→Option (List RV)
 | []=>some []
 | r::l=>match aD2 P r,rF l with
  | some a,some as=>some (a::as)
  | _,_=>none
def aH9 (ptrs:Nat) (cuts:List (Nat×Σ α:Type,α→Tm)):Nat :=
 match cuts with
 | (j,_)::_=>bif Nat.beq j 999999&&Nat.ble ptrs 1000000 then 1000000 else ptrs
 | []=>ptrs
def aGN (cuts:List (Nat×Σ α:Type,α→Tm)):List (Nat×Σ α:Type,α→Tm) :=
 match cuts with
 | (j,c)::r=>bif Nat.beq j 999999 then r else (j,c)::r
 | []=>[]
def trF (ptrs:Nat) (kills:List Hint) (cuts:List (Nat×Σ α:Type,α→Tm)) (fn:Func):Option AF :=
 match fn.body with
 | some c=>match trC P ft (aH9 ptrs cuts) c { kills:=kills,cuts:=aGN cuts,at_:=aH9 ptrs cuts,seqs:=0 },rF P fn.results.toList with
  | some (b,_),some rs=>some { body:=b,results:=rs,ptrs:=ptrs,more:=fn.ntmps - (fn.params.size+fn.nfree) }
  | _,_=>none
 | none=>none
end
abbrev Sg:=Nat→Nat→Option Value
inductive Rp (σ:Sg):Value→D→Prop
 | dead (v:Value):Rp σ v .dead
 | int (k:IntKind) (n:Int):Rp σ (.int k n) (.int k n)
 | bool (b:Bool):Rp σ (.bool b) (.bool b)
 | str (s:ByteArray):Rp σ (.string s) (.str s)
 | nilp:Rp σ (.pointer none) .nilp
 | ubool (b:Bool):Rp σ (.bool b) .ubool
 | slice (a:Option Addr) (n c:Nat) (t:Tag) (sz:Nat) (g:Nat→List D) (b o:Nat) (val:Nat→Nat→Value) :
   n≤c→(n≠0→a=some ⟨b,o,none⟩)→(∀ i,i < n→(g i).length=sz)→(∀ i j,i < n→j < sz→σ b (o+i * sz+j)=some (val i j)) →
   (∀ i j,i < n→j < sz→Rp σ (val i j) (nth (g i) j .dead).pure1)→Rp σ (.slice a n c) (.slice t sz n g)
def EAt (σ:Sg) (b o:Nat) (l:List D):Prop:=∀ j,j < l.length→∃ v,σ b (o+j)=some v∧Rp σ v (nth l j .dead).pure1
structure Og where
 σ:Sg
 η:Nat→Nat→Option Value
instance:CoeFun Og (fun _=>Sg):=⟨Og.σ⟩
structure Rs where
 id:Nat
 i:Nat
 q:Nat
 n:Nat
 z:Nat
 c:Nat
structure Gh where
 /-- the cells that never change any more -/
 σ:Sg
 /-- a variable's block -/
 β:Nat→Nat
 /-- a token's slice -/
 ρ:Nat→Value
 /-- a row's header while it has n elements -/
 η:Nat→Nat→Option Value
 /-- what is reserved for the slices in a map's entries -/
 γ:Nat→Option Rs
def TagR (G:Gh) (tk:Nat→Option (Nat×Nat)) (v:Value):D→Prop
 | .slice .full _ n _=>∃ a,v=.slice a n n
 | .slice (.own i) _ n _=>∀ z m,tk i=some (z,m)→n≤m∧(n=m→v=G.ρ i)
 | _=>True
inductive Re (σ:Sg):Value→D→Prop
 | pure {v:Value} {d:D}:Rp σ v d→d=d.pure1→Re σ v d
 | eptr (b o:Nat) (l:List D):EAt σ b o l→Re σ (.pointer (some ⟨b,o,none⟩)) (.eptr l)
def CellsV (σ:Sg) (agg:Bool) (v:Value) (ds:List D):Prop :=
 (agg=true∧∃ cs,v=.agg cs∧cs.size=ds.length∧∀ j,j < ds.length→Rp σ (cs.getD j undef) (nth ds j .dead).pure1)∨(agg=false∧ds.length=1∧Rp σ v (nth ds 0 .dead).pure1)
inductive Rc (F:Nat→FuncId) (G:Gh) (tk:Nat→Option (Nat×Nat)):Value→D→Prop
 | pure {v:Value} {d:D}:Rp G.σ v d→TagR G tk v d→Rc F G tk v d
 | ptr (id off:Nat):Rc F G tk (.pointer (some ⟨G.β id,off,none⟩)) (.ptr id off)
 | eptr (b o:Nat) (l:List D):EAt G.σ b o l→Rc F G tk (.pointer (some ⟨b,o,none⟩)) (.eptr l)
 | fn (f:Nat) (cap:Array Value) (l:List D):cap.size=l.length→(∀ j,j < l.length→Re G.σ (cap.getD j undef) (nth l j .dead))→Rc F G tk (.func (.func (F f)) #[] cap) (.fn f l)
 /-- a map's entries: keys and values,side by side -/
 | mp (vk vv:Array Value) (va:Bool) (n:Nat) (ks:Nat→ByteArray) (vs:Nat→List D):vk.size=n→vv.size=n→(∀ i,i < n→vk.getD i undef=.string (ks i))→(∀ i,i < n→CellsV G.σ va (vv.getD i undef) (vs i))→Rc F G tk (.tuple #[.tuple vk,.tuple vv]) (.mp va n ks vs)
inductive Ra (F:Nat→FuncId) (G:Gh) (tk:Nat→Option (Nat×Nat)):Value→D→Prop
 | cell {v:Value} {d:D}:Rc F G tk v d→Ra F G tk v d
 | agg (cs:Array Value) (l:List D):cs.size=l.length→(∀ j,j < l.length→Rc F G tk (cs.getD j undef) (nth l j .dead))→Ra F G tk (.agg cs) (.agg l)
inductive Rt (F:Nat→FuncId) (G:Gh) (tk:Nat→Option (Nat×Nat)):Value→D→Prop
 | cell {v:Value} {d:D}:Rc F G tk v d→Rt F G tk v d
 | agg (cs:Array Value) (l:List D):cs.size=l.length→(∀ j,j < l.length→Rp G.σ (cs.getD j undef) (nth l j .dead)∧nth l j .dead=(nth l j .dead).pure1)→Rt F G tk (.agg cs) (.agg l)
inductive Rd (F:Nat→FuncId) (G:Gh) (tk:Nat→Option (Nat×Nat)):Value→D→Prop
 | any {v:Value} {d:D}:Ra F G tk v d→Rd F G tk v d
 | tup (vs:Array Value) (l:List D):vs.size=l.length→(∀ j,j < l.length→Rt F G tk (vs.getD j undef) (nth l j .dead))→Rd F G tk (.tuple vs) (.tup l)
 | mref (id:Nat):Rd F G tk (.map (some (G.β id))) (.mref id)
 | msl (id z n:Nat) (a:Option Addr) (c:Nat):G.η id n=some (.slice a n c)→n≤c→(n≠0→∃ b,a=some ⟨b,0,none⟩)→Rd F G tk (.slice a n c) (.msl id z n)
 | rptr (id z n i off b c:Nat):G.η id n=some (.slice (some ⟨b,0,none⟩) n c)→i < n→Rd F G tk (.pointer (some ⟨b,i * z+off,none⟩)) (.rptr id z n i off)
section mono
variable {F:Nat→FuncId} {G G':Gh} {tk tk':Nat→Option (Nat×Nat)} {σ σ':Sg}
def SgLe (σ σ':Sg):Prop:=∀ b o v,σ b o=some v→σ' b o=some v
theorem SgLe.refl (σ:Sg):SgLe σ σ:=fun _ _ _ h=>h
theorem SgLe.trans {a b c:Sg} (h:SgLe a b) (k:SgLe b c):SgLe a c:=fun _ _ _ x=>k _ _ _ (h _ _ _ x)
theorem Rp.mono (h:SgLe σ σ') {v:Value} {d:D} (r:Rp σ v d):Rp σ' v d:=by
 induction r with
 | dead v=>exact .dead v
 | int k n=>exact .int k n
 | bool b=>exact .bool b
 | str s=>exact .str s
 | nilp=>exact .nilp
 | ubool b=>exact .ubool b
 | slice a n c t sz g b o val h1 h2 h3 h4 _ ih=>exact .slice a n c t sz g b o val h1 h2 h3 (fun i j hi hj=>h _ _ _ (h4 i j hi hj)) ih
theorem EAt.mono (h:SgLe σ σ') {b o:Nat} {l:List D} (r:EAt σ b o l):EAt σ' b o l:=fun j hj =>
 let ⟨v,h1,h2⟩:=r j hj
 ⟨v,h _ _ _ h1,h2.mono h⟩
theorem Re.mono (h:SgLe σ σ') {v:Value} {d:D} (r:Re σ v d):Re σ' v d:=by
 cases r with
 | pure h1 h2=>exact .pure (h1.mono h) h2
 | eptr b o l h1=>exact .eptr b o l (h1.mono h)
theorem CellsV.mono (h:SgLe σ σ') {a:Bool} {v:Value} {ds:List D} (r:CellsV σ a v ds):CellsV σ' a v ds:=by
 rcases r with ⟨h1,cs,h2,h3,h4⟩ | ⟨h1,h2,h3⟩
 ·exact .inl ⟨h1,cs,h2,h3,fun j hj=>(h4 j hj).mono h⟩
 ·exact .inr ⟨h1,h2,h3.mono h⟩
structure Keeps (lo hi:Nat) (G G':Gh) (tk tk':Nat→Option (Nat×Nat)):Prop where
 σ:SgLe G.σ G'.σ
 β:∀ id,¬(lo≤id∧id < hi)→G'.β id=G.β id
 tok:∀ i z m,¬(lo≤i∧i < hi)→tk' i=some (z,m)→∃ z0 m0,tk i=some (z0,m0)∧m0≤m∧(m0=m→G'.ρ i=G.ρ i)
 row:∀ id n v,¬(lo≤id∧id < hi)→G.η id n=some v→G'.η id n=some v
theorem Keeps.refl (lo hi:Nat) (G:Gh) (tk:Nat→Option (Nat×Nat)):Keeps lo hi G G tk tk :=
 ⟨SgLe.refl _,fun _ _=>rfl,fun _ z m _ h=>⟨z,m,h,Nat.le_refl _,fun _=>rfl⟩,fun _ _ _ _ h=>h⟩
theorem cP {lo hi j:Nat} (h:(Nat.ble lo j&&Nat.blt j hi)=false):¬(lo≤j∧j < hi):=by
 rintro ⟨h1,h2⟩
 have e1:Nat.ble lo j=true:=by rw [Nat.ble_eq]; exact h1
 have e2:Nat.blt j hi=true:=by rw [Nat.blt_eq]; exact h2
 rw [e1,e2] at h
 cases h
theorem TagR.keep {lo hi:Nat} (k:Keeps lo hi G G' tk tk') {v:Value} {d:D} (hn:d.names1 lo hi=false) (h:TagR G tk v d):TagR G' tk' v d:=by
 cases d with
 | slice t z n g =>
  cases t with
  | ro=>trivial
  | full=>exact h
  | own i =>
   intro z m hz
   obtain ⟨z0,m0,e1,e2,e3⟩:=k.tok i z m (cP hn) hz
   obtain ⟨h1,h2⟩:=h z0 m0 e1
   refine ⟨Nat.le_trans h1 e2,fun hnm=>?_⟩
   have:m0=m:=by omega
   rw [e3 this]
   exact h2 (by omega)
 | _=>trivial
theorem Rc.keep {lo hi:Nat} (k:Keeps lo hi G G' tk tk') {v:Value} {d:D} (hn:d.names1 lo hi=false) (h:Rc F G tk v d):Rc F G' tk' v d:=by
 cases h with
 | pure h1 h2=>exact .pure (h1.mono k.σ) (h2.keep k hn)
 | ptr id off=>rw [← k.β id (cP hn)]; exact .ptr id off
 | eptr b o l h1=>exact .eptr b o l (h1.mono k.σ)
 | fn f cap l h1 h2=>exact .fn f cap l h1 fun j hj=>(h2 j hj).mono k.σ
 | mp vk vv va n ks vs h1 h2 h3 h4=>exact .mp vk vv va n ks vs h1 h2 h3 fun i hi=>(h4 i hi).mono k.σ
theorem dS {α:Type} (l:List α) (d:α):∀ {j:Nat} (h:j < l.length),nth l j d=l[j]:=by
 induction l with
 | nil=>intro j h; simp at h
 | cons a l ih =>
  intro j h
  cases j with
  | zero=>rfl
  | succ j=>simp only [nth]; rw [ih (by simpa using h)]; rfl
theorem jM {α:Type} (l:List α) (d:α):∀ {j:Nat} (_:l.length≤j),nth l j d=d:=by
 induction l with
 | nil=>intro j _; rfl
 | cons a l ih =>
  intro j h
  cases j with
  | zero=>simp at h
  | succ j=>simp only [nth]; exact ih (by simpa using h)
theorem eN {lo hi:Nat} {l:List D} (h:names lo hi l=false) {j:Nat} (hj:j < l.length):(nth l j .dead).names1 lo hi=false:=by
 induction l generalizing j with
 | nil=>simp at hj
 | cons d l ih =>
  simp only [names] at h
  cases hd:d.names1 lo hi with
  | true=>rw [hd] at h; simp at h
  | false =>
   rw [hd] at h
   cases j with
   | zero=>exact hd
   | succ j=>exact ih (by simpa using h) (by simpa using hj)
theorem uP {lo hi:Nat} {l:List D} (h:jQ lo hi l=false) {j:Nat} (hj:j < l.length):(nth l j .dead).names lo hi=false:=by
 induction l generalizing j with
 | nil=>simp at hj
 | cons d l ih =>
  simp only [jQ] at h
  cases hd:d.names lo hi with
  | true=>rw [hd] at h; simp at h
  | false =>
   rw [hd] at h
   cases j with
   | zero=>exact hd
   | succ j=>exact ih (by simpa using h) (by simpa using hj)
theorem Ra.keep {lo hi:Nat} (k:Keeps lo hi G G' tk tk') {v:Value} {d:D} (hn:d.names lo hi=false) (h:Ra F G tk v d):Ra F G' tk' v d:=by
 cases h with
 | cell h1 =>
  refine .cell (h1.keep k ?_)
  cases d <;> first | exact hn | rfl
 | agg cs l h1 h2=>exact .agg cs l h1 fun j hj=>(h2 j hj).keep k (eN hn hj)
theorem Rt.keep {lo hi:Nat} (k:Keeps lo hi G G' tk tk') {v:Value} {d:D} (hn:d.names1 lo hi=false) (h:Rt F G tk v d):Rt F G' tk' v d:=by
 cases h with
 | cell h1=>exact .cell (h1.keep k hn)
 | agg cs l h1 h2=>exact .agg cs l h1 fun j hj=>⟨(h2 j hj).1.mono k.σ,(h2 j hj).2⟩
theorem Rd.keep {lo hi:Nat} (k:Keeps lo hi G G' tk tk') {v:Value} {d:D} (hn:d.names lo hi=false) (h:Rd F G tk v d):Rd F G' tk' v d:=by
 cases h with
 | any h1=>exact .any (h1.keep k hn)
 | tup vs l h1 h2=>exact .tup vs l h1 fun j hj=>(h2 j hj).keep k (eN hn hj)
 | mref id=>rw [← k.β id (cP hn)]; exact .mref id
 | msl id z n a c h1 h2 h3=>exact .msl id z n a c (k.row id n _ (cP hn) h1) h2 h3
 | rptr id z n i off b c h1 h2=>exact .rptr id z n i off b c (k.row id n _ (cP hn) h1) h2
theorem Rd.dead (v:Value):Rd F G tk v .dead:=.any (.cell (.pure (.dead v) trivial))
theorem cS (v:Value) (d:D):TagR G tk v d.pure1:=by cases d <;> trivial
theorem Rp.pure1 {v:Value} {d:D} (h:Rp σ v d):Rp σ v d.pure1:=by
 cases h with
 | slice a n c t sz g b o val h1 h2 h3 h4 h5=>exact .slice a n c .ro sz g b o val h1 h2 h3 h4 h5
 | dead v=>exact .dead v
 | int k n=>exact .int k n
 | bool b=>exact .bool b
 | str s=>exact .str s
 | nilp=>exact .nilp
 | ubool b=>exact .dead _
theorem Rp.tag {v:Value} {t:Tag} {z n:Nat} {g:Nat→List D} (h:Rp σ v (.slice t z n g)) (t':Tag):Rp σ v (.slice t' z n g):=by
 cases h with
 | slice a _ c _ _ _ b o val h1 h2 h3 h4 h5=>exact .slice a n c t' z g b o val h1 h2 h3 h4 h5
theorem Rp.ro1 {v:Value} {d:D} (h:Rp σ v d):Rp σ v d.ro1:=by
 cases h with
 | slice a n c t sz g b o val h1 h2 h3 h4 h5 =>
  have hr:Rp σ (.slice a n c) (.slice t sz n g):=.slice a n c t sz g b o val h1 h2 h3 h4 h5
  cases t <;> exact hr.tag _
 | dead v=>exact .dead v
 | int k n=>exact .int k n
 | bool b=>exact .bool b
 | str s=>exact .str s
 | nilp=>exact .nilp
 | ubool b=>exact .ubool b
theorem b7 (d:D):d.pure1.pure1=d.pure1:=by cases d <;> rfl
theorem Rc.pure1 {v:Value} {d:D} (h:Rc F G tk v d):Rp G.σ v d.pure1:=by
 cases h with
 | pure h1 _=>exact h1.pure1
 | ptr id off=>exact .dead _
 | eptr b o l _=>exact .dead _
 | fn f cap l _ _=>exact .dead _
 | mp _ _ _ _ _ _ _ _ _ _=>exact .dead _
theorem Rc.ro1 {v:Value} {d:D} (h:Rc F G tk v d):Rc F G tk v d.ro1:=by
 cases h with
 | pure h1 h2 =>
  refine .pure h1.ro1 ?_
  cases d with
  | slice t z n g=>cases t <;> first | trivial | exact h2
  | _=>trivial
 | ptr id off=>exact .ptr id off
 | eptr b o l h1=>exact .eptr b o l h1
 | fn f cap l h1 h2=>exact .fn f cap l h1 h2
 | mp vk vv va n ks vs h1 h2 h3 h4=>exact .mp vk vv va n ks vs h1 h2 h3 h4
theorem aU (l:List D):(aV l).length=l.length:=by
 induction l with
 | nil=>rfl
 | cons d l ih=>simp [aV,ih]
theorem t0 (l:List D):(ros l).length=l.length:=by
 induction l with
 | nil=>rfl
 | cons d l ih=>simp [ros,ih]
theorem bF (l:List D) (j:Nat):nth (aV l) j .dead=(nth l j .dead).pure1:=by
 induction l generalizing j with
 | nil=>rfl
 | cons d l ih=>cases j with
  | zero=>rfl
  | succ j=>exact ih j
theorem aIA (l:List D) (j:Nat):nth (ros l) j .dead=(nth l j .dead).ro1:=by
 induction l generalizing j with
 | nil=>rfl
 | cons d l ih=>cases j with
  | zero=>rfl
  | succ j=>exact ih j
theorem iP (l:List D) (o j:Nat):nth (l.drop o) j .dead=nth l (o+j) .dead:=by
 induction o generalizing l with
 | zero=>simp
 | succ o ih =>
  cases l with
  | nil=>simp [nth]
  | cons d l=>rw [List.drop_succ_cons,ih]; rw [show o+1+j=(o+j)+1 from by omega]; rfl
theorem lB (l:List D) (n j:Nat) (h:j < n):nth (l.take n) j .dead=nth l j .dead:=by
 induction n generalizing l j with
 | zero=>omega
 | succ n ih =>
  cases l with
  | nil=>simp [nth]
  | cons d l=>cases j with
   | zero=>rfl
   | succ j=>exact ih l j (by omega)
theorem jK (l m:List D) (j:Nat):nth (l++m) j .dead=if j < l.length then nth l j .dead else nth m (j - l.length) .dead:=by
 induction l generalizing j with
 | nil=>simp
 | cons d l ih=>cases j with
  | zero=>simp [nth]
  | succ j=>simp only [List.cons_append,nth,ih,List.length_cons,Nat.add_lt_add_iff_right,Nat.add_sub_add_right]
theorem cR {α:Type} (l:List α) (i:Nat) (a:α):(upd l i a).length=l.length:=by
 induction l generalizing i with
 | nil=>rfl
 | cons d l ih=>cases i with
  | zero=>rfl
  | succ i=>simp [upd,ih]
theorem gF (l:List D) (i j:Nat) (d:D):nth (upd l i d) j .dead=if i=j∧j < l.length then d else nth l j .dead:=by
 induction l generalizing i j with
 | nil=>simp [upd,nth]
 | cons e l ih =>
  cases i with
  | zero=>cases j with
   | zero=>simp [upd,nth]
   | succ j=>simp [upd,nth]
  | succ i=>cases j with
   | zero=>simp [upd,nth]
   | succ j=>simp only [upd,nth,ih,List.length_cons,Nat.add_lt_add_iff_right,Nat.add_right_cancel_iff]
theorem EAt.drop {b o:Nat} {l:List D} (h:EAt σ b o l) (k:Nat):EAt σ b (o+k) (l.drop k):=by
 intro j hj
 rw [List.length_drop] at hj
 obtain ⟨v,h1,h2⟩:=h (k+j) (by omega)
 refine ⟨v,by rw [Nat.add_assoc]; exact h1,?_⟩
 rw [iP]
 exact h2
end mono
def Blk (G:Gh) (id:Nat) (cs:List D) (b:Nat):Prop :=
 (cM cs=false∧G.β id=b)∨∃ w z n g c,cs=[.dead,.arr w z n g]∧G.η id n=some (.slice (some ⟨b,0,none⟩) n c)∧0 < c
theorem Blk.congr {G G':Gh} {id:Nat} {cs:List D} {b:Nat} (h:Blk G id cs b) (e1:G'.β id=G.β id) (e2:∀ n,G'.η id n=G.η id n):Blk G' id cs b:=by
 rcases h with ⟨h1,h2⟩ | ⟨w,z,n,g,c,h1,h2,h3⟩
 ·exact .inl ⟨h1,e1.trans h2⟩
 ·exact .inr ⟨w,z,n,g,c,h1,(e2 n).trans h2,h3⟩
theorem Blk.flat {G:Gh} {id:Nat} {cs:List D} {b:Nat} (h:Blk G id cs b) (hs:cM cs=false):G.β id=b:=by
 rcases h with ⟨_,h⟩ | ⟨w,z,n,g,c,rfl,_⟩
 ·exact h
 ·cases hs
theorem cK {cs:List D} (h:aQ cs=true):cM cs=false:=by
 match hc:cM cs with
 | false=>rfl
 | true =>
  unfold cM at hc
  split at hc
  ·cases h
  ·cases hc
theorem dY {cs:List D} (h:cM cs=true):∃ w z n g,cs=[.dead,.arr w z n g]:=by
 unfold cM at h
 split at h
 ·exact ⟨_,_,_,_,rfl⟩
 ·cases h
def cL (G:Gh) (hp:Nat→Option (Bool×List D)) (tk:Nat→Option (Nat×Nat)) (b:Nat):Nat ⊕ Nat→Prop
 | .inl id=>∃ cs,hp id=some (false,cs)∧Blk G id cs b
 | .inr i=>∃ z n c,tk i=some (z,n)∧G.ρ i=.slice (some ⟨b,0,none⟩) n c∧n < c
def HoldsO (F:Nat→FuncId) (G:Gh) (tk:Nat→Option (Nat×Nat)) (o:Obj) (cs:List D):Prop :=
 (aQ cs=true∧∃ c e,o=.cells c e (0,0)∧c.size=cs.length∧∀ j,j < cs.length→Rc F G tk (c.getD j undef) (nth cs j .dead)) ∨
 (∃ s pos,o=.stringIter s pos∧cs=[.dead,.str s,.int .i64 ((pos:Nat):Int)]) ∨
 ∃ es clock x va n ks vs,o=.map es clock∧cs=[x,.mp va n ks vs]∧Rc F G tk (.tuple #[.tuple (es.map (·.key)),.tuple (es.map (·.val))]) (.mp va n ks vs)
theorem HoldsO.cells {F:Nat→FuncId} {G:Gh} {tk:Nat→Option (Nat×Nat)} {o:Obj} {cs:List D} (h:HoldsO F G tk o cs) (hs:aQ cs=true):∃ c e,o=.cells c e (0,0)∧c.size=cs.length∧∀ j,j < cs.length→Rc F G tk (c.getD j undef) (nth cs j .dead):=by
 rcases h with h | ⟨s,pos,_,rfl⟩ | ⟨_,_,x,_,_,_,_,_,rfl,_⟩
 ·exact h.2
 ·simp [aQ] at hs
 ·cases x <;> simp [aQ] at hs
theorem HoldsO.imp {F:Nat→FuncId} {G G':Gh} {tk tk':Nat→Option (Nat×Nat)} {o:Obj} {cs:List D} (h:HoldsO F G tk o cs) (f:∀ j v,j < cs.length→Rc F G tk v (nth cs j .dead)→Rc F G' tk' v (nth cs j .dead)):HoldsO F G' tk' o cs:=by
 rcases h with ⟨hs,c,e,h1,h2,h3⟩ | h | ⟨es,clock,x,va,n,ks,vs,h1,rfl,h2⟩
 ·exact .inl ⟨hs,c,e,h1,h2,fun j hj=>f j _ hj (h3 j hj)⟩
 ·exact .inr (.inl h)
 ·exact .inr (.inr ⟨es,clock,x,va,n,ks,vs,h1,rfl,f 1 _ (by simp) h2⟩)
theorem HoldsO.cell {F:Nat→FuncId} {G:Gh} {tk:Nat→Option (Nat×Nat)} {o:Obj} {cs:List D} (h:HoldsO F G tk o cs):aQ cs=true∨(∃ s p,cs=[.dead,.str s,.int .i64 p])∨∃ x va n ks vs,cs=[x,.mp va n ks vs]:=by
 rcases h with h | ⟨s,pos,_,h⟩ | ⟨_,_,x,va,n,ks,vs,_,h,_⟩
 ·exact .inl h.1
 ·exact .inr (.inl ⟨s,_,h⟩)
 ·exact .inr (.inr ⟨x,va,n,ks,vs,h⟩)
theorem HoldsO.noArr {F:Nat→FuncId} {G:Gh} {tk:Nat→Option (Nat×Nat)} {o:Obj} {cs:List D} (h:HoldsO F G tk o cs):cM cs=false:=by
 rcases h.cell with h | ⟨s,p,rfl⟩ | ⟨x,va,n,ks,vs,rfl⟩
 ·exact cK h
 ·rfl
 ·cases x <;> rfl
def RowO (σ:Sg) (o:Obj) (z n c:Nat) (g:Nat→List D):Prop :=
 ∃ cur e,o=.cells cur e (0,0)∧cur.size=c * z∧∀ i,i < n→(g i).length=z∧∀ j,j < z→(cur.getD (i * z+j) undef).oneCell'=true∧Rp σ (cur.getD (i * z+j) undef) (nth (g i) j .dead).pure1
theorem RowO.mono {σ σ':Sg} (h:SgLe σ σ') {o:Obj} {z n c:Nat} {g:Nat→List D} (r:RowO σ o z n c g):RowO σ' o z n c g:=by
 obtain ⟨cur,e,h1,h2,h3⟩:=r
 exact ⟨cur,e,h1,h2,fun i hi=>⟨(h3 i hi).1,fun j hj=>⟨((h3 i hi).2 j hj).1,((h3 i hi).2 j hj).2.mono h⟩⟩⟩
structure aI8 (np:Nat) (η0 η:Nat→Nat→Option Value) (id:Nat) (w:Bool) (n:Nat) (a:Option Addr) (c:Nat):Prop where
 at_:η id n=some (.slice a n c)
 le:n≤c
 none:∀ m,n < m→η id m=.none
 mine:id < np→w=false∧η0 id n=some (.slice a n c)
 blk:0 < c→∃ b,a=some ⟨b,0,.none⟩
def aI6:Value→Nat→Value
 | .agg cs,q=>cs.getD q undef
 | v,_=>v
def LinR (γ:Nat→Option Rs) (id:Nat) (x:D) (n:Nat) (ks:Nat→ByteArray) (vs:Nat→List D) (vals:Nat→Value):Prop :=
 ∀ i,i < n→(∀ k,x=.str k→i≠mpF ks k n)→∀ q,q < (vs i).length→∀ t z len g,nth (vs i) q .dead=.slice t z len g→∀ a c,aI6 (vals i) q=.slice a len c→len < c→∃ b,a=some ⟨b,0,none⟩∧γ b=some ⟨id,i,q,len,z,c⟩
def uQ (es:Array MapEntry):Nat→Value:=fun i=>(es.getD i default).val
structure Mem (F:Nat→FuncId) (B np:Nat) (w0:World) (ext:List Nat) (σ0:Og) (G:Gh) (hp:Nat→Option (Bool×List D)) (tk:Nat→Option (Nat×Nat)) (w:World):Prop where
 stab:∀ b o v,G.σ b o=some v→v.oneCell'=true∧∃ c e fz,w.heap[b]? = some (.cells c e fz)∧c[o]? = some v
 old:∀ b o,b < B→G.σ b o=σ0 b o
 os:w.os=w0.os
 tape:w.tape=w0.tape
 output:w.output=w0.output
 base:B≤w.heap.size
 keep:∀ b,b < B→b ∉ ext→w.heap[b]? = w0.heap[b]?
 vars:∀ id cs,hp id=some (false,cs)→cM cs=false→∃ o,w.heap[G.β id]? = some o∧HoldsO F G tk o cs∧∀ q,G.σ (G.β id) q=none
 rows:∀ id fw z n g,hp id=some (false,[.dead,.arr fw z n g])→∃ a c,aI8 np σ0.η G.η id fw n a c∧∀ b,a=some ⟨b,0,none⟩→0 < c→(∀ q,G.σ b q=none)∧∃ o,w.heap[b]? = some o∧RowO G.σ o z n c g
 froz:∀ id cs,hp id=some (true,cs)→∀ j,j < cs.length→∃ v,G.σ (G.β id) j=some v∧Rp G.σ v (nth cs j .dead)∧nth cs j .dead=(nth cs j .dead).pure1
 toks:∀ i z n,tk i=some (z,n)→∃ a c,G.ρ i=.slice a n c∧n≤c∧(n < c→∃ b cur e,a=some ⟨b,0,none⟩∧w.heap[b]? = some (.cells cur e (0,0))∧cur.size=c * z ∧
  ∀ o,n * z≤o→G.σ b o=none)
 own1:∀ b k k',cL G hp tk b k→cL G hp tk b k'→k=k'
 own2:∀ b k,cL G hp tk b k→B≤b∨(b∈ext∧∃ id,k=.inl id∧id < np∧id < ext.length)
 resv:∀ b r,G.γ b=some r→B≤b∧(∀ k,¬cL G hp tk b k)∧(∀ o,r.n * r.z≤o→G.σ b o=none)∧∃ cur e,w.heap[b]? = some (.cells cur e (0,0))∧cur.size=r.c * r.z
 lins:∀ id x va n ks vs,hp id=some (false,[x,.mp va n ks vs])→x≠.dead→(va=true∧(x=.nilp∨∃ k,x=.str k))∧∃ es ck,w.heap[G.β id]? = some (.map es ck)∧LinR G.γ id x n ks vs (uQ es)
theorem Rc.oneCell {F:Nat→FuncId} {G:Gh} {tk:Nat→Option (Nat×Nat)} {v:Value} {d:D} (h:Rc F G tk v d) (hd:d≠.dead) (hm:∀ va n ks vs,d≠.mp va n ks vs):v.oneCell'=true:=by
 cases h with
 | mp _ _ va n ks vs _ _ _ _=>exact absurd rfl (hm va n ks vs)
 | pure h1 _=>cases h1 <;> first | rfl | exact absurd rfl hd
 | ptr id off=>rfl
 | eptr b o l _=>rfl
 | fn f cap l _ _=>rfl
theorem lD {l:List D} (h:aQ l=true) {j:Nat} (hj:j < l.length):nth l j .dead≠.dead:=by
 induction l generalizing j with
 | nil=>simp at hj
 | cons d l ih =>
  cases j with
  | zero=>intro e; simp only [nth] at e; subst e; simp [aQ] at h
  | succ j =>
   refine ih (j:=j) ?_ (by simpa using hj)
   cases d <;> first | exact h | simp [aQ] at h
theorem nI {l:List D} (h:aQ l=true) {j:Nat} (va:Bool) (n:Nat) (ks:Nat→ByteArray) (vs:Nat→List D):nth l j .dead≠.mp va n ks vs:=by
 induction l generalizing j with
 | nil=>intro e; cases j <;> cases e
 | cons d l ih =>
  cases j with
  | zero=>intro e; simp only [nth] at e; subst e; simp [aQ] at h
  | succ j =>
   refine ih (j:=j) ?_
   cases d <;> first | exact h | simp [aQ] at h
section
variable {F:Nat→FuncId} {B np:Nat} {w0 w:World} {ext:List Nat} {σ0:Og} {G:Gh} {hp:Nat→Option (Bool×List D)} {tk:Nat→Option (Nat×Nat)}
theorem Mem.cell (m:Mem F B np w0 ext σ0 G hp tk w) {b o:Nat} {v:Value} (h:G.σ b o=some v):w.cell? ⟨b,o,none⟩=some v:=by
 obtain ⟨_,c,e,fz,h1,h2⟩:=m.stab b o v h
 rw [cell_of_row w b o c e fz h1]
 exact h2
theorem Mem.lt (m:Mem F B np w0 ext σ0 G hp tk w) {b o:Nat} {v:Value} (h:G.σ b o=some v):b < w.heap.size:=by
 obtain ⟨_,c,e,fz,h1,_⟩:=m.stab b o v h
 exact (Array.getElem?_eq_some_iff.1 h1).1
theorem Mem.own_lt (m:Mem F B np w0 ext σ0 G hp tk w) {b:Nat} {k:Nat ⊕ Nat} (h:cL G hp tk b k):b < w.heap.size:=by
 cases k with
 | inl id =>
  obtain ⟨cs,h1,⟨h2,rfl⟩ | ⟨fw,z,n,g,c,rfl,h3,h4⟩⟩:=h
  ·obtain ⟨o,h2,_⟩:=m.vars id cs h1 h2
   exact (Array.getElem?_eq_some_iff.1 h2).1
  ·obtain ⟨a,c',h5,h6⟩:=m.rows id fw z n g h1
   rw [h5.at_] at h3
   cases h3
   obtain ⟨_,o,h7,_⟩:=h6 b rfl h4
   exact (Array.getElem?_eq_some_iff.1 h7).1
 | inr i =>
  obtain ⟨z,n,c,h1,h2,h3⟩:=h
  obtain ⟨a,c',h4,_,h6⟩:=m.toks i z n h1
  rw [h2] at h4
  cases h4
  obtain ⟨b',cur,e,h7,h8,_⟩:=h6 h3
  cases h7
  exact (Array.getElem?_eq_some_iff.1 h8).1
theorem Mem.drew (m:Mem F B np w0 ext σ0 G hp tk w):Mem F B np w0 ext σ0 G hp tk w.drew :=
 ⟨m.stab,m.old,m.os,m.tape,m.output,m.base,m.keep,m.vars,m.rows,m.froz,m.toks,m.own1,m.own2,m.resv,m.lins⟩
theorem b6 (d:D):d.names1 0 0=false:=by
 cases d with
 | slice t z n g=>cases t <;> rfl
 | _=>rfl
theorem Rc.more {σ':Sg} {v:Value} {d:D} (h:SgLe G.σ σ') (r:Rc F G tk v d):Rc F { G with σ:=σ' } tk v d :=
 Rc.keep (G:=G) (G':={ G with σ:=σ' }) (lo:=0) (hi:=0) ⟨h,fun _ _=>rfl,fun _ z m _ e=>⟨z,m,e,Nat.le_refl _,fun _=>rfl⟩,fun _ _ _ _ e=>e⟩ (b6 d) r
def aT (σ:Sg) (bn:Nat) (st:Nat→Option Value):Sg:=fun b o=>if b=bn then st o else σ b o
theorem f0 (m:Mem F B np w0 ext σ0 G hp tk w) (st:Nat→Option Value):SgLe G.σ (aT G.σ w.heap.size st):=by
 intro b o v h
 have:=m.lt h
 unfold aT
 rw [if_neg (by omega)]
 exact h
theorem b9 {w:World} {o:Obj} {b:Nat} {x:Obj} (h:w.heap[b]? = some x):(w.alloc o).heap[b]? = some x:=by
 rw [Go.heap_alloc_old w o (r:=b) (Array.getElem?_eq_some_iff.1 h).1]
 exact h
theorem Mem.newBlock (m:Mem F B np w0 ext σ0 G hp tk w) (c:Array Value) (e:TypeId) (fz:Nat×Nat) (st:Nat→Option Value)
  (hst:∀ o v,st o=some v→v.oneCell'=true∧c[o]? = some v) :
  Mem F B np w0 ext σ0 { G with σ:=aT G.σ w.heap.size st } hp tk (w.alloc (.cells c e fz)):=by
 have hle:=f0 m st
 constructor
 ·intro b o v h
  by_cases hb:b=w.heap.size
  ·subst hb
   simp only [aT,if_true] at h
   exact ⟨(hst o v h).1,c,e,fz,heap_alloc_new w _,(hst o v h).2⟩
  ·simp only [aT,if_neg hb] at h
   obtain ⟨h1,c',e',fz',h2,h3⟩:=m.stab b o v h
   exact ⟨h1,c',e',fz',b9 h2,h3⟩
 ·intro b o hb
  have:=m.base
  simp only [aT]
  rw [if_neg (by omega)]
  exact m.old b o hb
 ·exact m.os
 ·exact m.tape
 ·exact m.output
 ·have:=m.base; simp; omega
 ·intro b hb he
  rw [Go.heap_alloc_old w _ (r:=b) (by have:=m.base; omega)]
  exact m.keep b hb he
 ·intro id cs h hna
  obtain ⟨o',h1,h3,h4⟩:=m.vars id cs h hna
  refine ⟨o',b9 h1,h3.imp fun j v hj hr=>hr.more hle,fun o=>?_⟩
  have:=(Array.getElem?_eq_some_iff.1 h1).1
  simp only [aT]
  rw [if_neg (by omega)]
  exact h4 o
 ·intro id fw z n g h
  obtain ⟨a,c',h1,h2⟩:=m.rows id fw z n g h
  refine ⟨a,c',h1,fun b hb hc=>?_⟩
  obtain ⟨h3,o',h4,h5⟩:=h2 b hb hc
  refine ⟨fun q=>?_,o',b9 h4,h5.mono hle⟩
  have:=(Array.getElem?_eq_some_iff.1 h4).1
  simp only [aT]
  rw [if_neg (by omega)]
  exact h3 q
 ·intro id cs h j hj
  obtain ⟨v,h1,h2,h3⟩:=m.froz id cs h j hj
  exact ⟨v,hle _ _ _ h1,h2.mono hle,h3⟩
 ·intro i z n h
  obtain ⟨a,c',h1,h2,h3⟩:=m.toks i z n h
  refine ⟨a,c',h1,h2,fun hn=>?_⟩
  obtain ⟨b,cur,e',h4,h5,h6,h7⟩:=h3 hn
  refine ⟨b,cur,e',h4,b9 h5,h6,fun o ho=>?_⟩
  have:=(Array.getElem?_eq_some_iff.1 h5).1
  simp only [aT]
  rw [if_neg (by omega)]
  exact h7 o ho
 ·exact m.own1
 ·exact m.own2
 ·intro b r h
  obtain ⟨h1,h2,h3,cur,e',h4,h5⟩:=m.resv b r h
  refine ⟨h1,h2,fun o ho=>?_,cur,e',b9 h4,h5⟩
  have:=(Array.getElem?_eq_some_iff.1 h4).1
  simp only [aT]
  rw [if_neg (by omega)]
  exact h3 o ho
 ·intro id x va n ks vs h hx
  obtain ⟨h1,es,ck,h2,h3⟩:=m.lins id x va n ks vs h hx
  exact ⟨h1,es,ck,b9 h2,h3⟩
theorem Mem.resv_new (m:Mem F B np w0 ext σ0 G hp tk w):G.γ w.heap.size=none:=by
 cases h:G.γ w.heap.size with
 | none=>rfl
 | some r =>
  obtain ⟨_,_,_,_,_,h4,_⟩:=m.resv _ r h
  have:=(Array.getElem?_eq_some_iff.1 h4).1
  omega
theorem Mem.addObj (m:Mem F B np w0 ext σ0 G hp tk w) (id b:Nat) (cs:List D) (ob:Obj)
  (hb:w.heap[b]? = some ob) (hr:HoldsO F { G with β:=fun j=>if j=id then b else G.β j } tk ob cs)
  (hσ:∀ o,G.σ b o=none) (hno:∀ k,¬cL G hp tk b k) (hB:B≤b∨(b∈ext∧id < np∧id < ext.length))
  (hfree:hp id=none) (hcl:∀ id' f cs',hp id'=some (f,cs')→names id (id+1) cs'=false) (hres:G.γ b=none)
  (hlin:∀ x va n ks vs,cs=[x,.mp va n ks vs]→x≠.dead→(va=true∧(x=.nilp∨∃ k,x=.str k))∧∃ es ck,ob=.map es ck∧LinR G.γ id x n ks vs (uQ es)) :
  Mem F B np w0 ext σ0 { G with β:=fun j=>if j=id then b else G.β j } (fun j=>bif Nat.beq j id then some (false,cs) else hp j) tk w:=by
 have hk:Keeps id (id+1) G { G with β:=fun j=>if j=id then b else G.β j } tk tk :=
  ⟨SgLe.refl _,fun j hj=>by simp only; rw [if_neg (by omega)],fun _ z m _ e=>⟨z,m,e,Nat.le_refl _,fun _=>rfl⟩,fun _ _ _ _ e=>e⟩
 have hna:=hr.noArr
 have hget:∀ j x,(bif Nat.beq j id then some (false,cs) else hp j)=some x→(j=id∧x=(false,cs))∨(j≠id∧hp j=some x):=by
  intro j x h
  by_cases hj:j=id
  ·subst hj
   rw [Nat.beq_refl] at h
   simp only [cond_true,Option.some.injEq] at h
   exact .inl ⟨rfl,h.symm⟩
  ·have:Nat.beq j id=false:=by
    cases hh:Nat.beq j id with
    | false=>rfl
    | true=>exact absurd (Nat.eq_of_beq_eq_true hh) hj
   rw [this] at h
   exact .inr ⟨hj,h⟩
 have hown:∀ b' k,cL { G with β:=fun j=>if j=id then b else G.β j } (fun j=>bif Nat.beq j id then some (false,cs) else hp j) tk b' k →
   (b'=b∧k=.inl id)∨(b'≠b∧cL G hp tk b' k):=by
  intro b' k h
  cases k with
  | inl j =>
   obtain ⟨cs',h1,h2⟩:=h
   simp only at h1
   rcases hget j _ h1 with ⟨rfl,hx⟩ | ⟨hj,h3⟩
   ·cases hx
    have h2:=h2.flat hna
    simp only [if_true] at h2
    exact .inl ⟨h2.symm,rfl⟩
   ·have ho:cL G hp tk b' (.inl j):=⟨cs',h3,h2.congr (by simp only; rw [if_neg hj]) fun _=>rfl⟩
    exact .inr ⟨fun hbb=>hno _ (hbb ▸ ho),ho⟩
  | inr i =>
   have ho:cL G hp tk b' (.inr i):=h
   exact .inr ⟨fun hbb=>hno _ (hbb ▸ ho),ho⟩
 refine ⟨m.stab,m.old,m.os,m.tape,m.output,m.base,m.keep,?_,?_,?_,m.toks,?_,?_,?_,?_⟩
 ·intro j cs' h hna'
  rcases hget j _ h with ⟨rfl,h'⟩ | ⟨hj,h3⟩
  ·cases h'
   refine ⟨ob,?_,hr,?_⟩
   ·simp only [if_true]; exact hb
   ·simp only [if_true]; exact hσ
  ·obtain ⟨o',h1,h4,h5⟩:=m.vars j cs' h3 hna'
   simp only
   rw [if_neg hj]
   exact ⟨o',h1,h4.imp fun i v hi hr=>hr.keep hk (eN (hcl j _ cs' h3) hi),h5⟩
 ·intro j fw z n g h
  rcases hget j _ h with ⟨rfl,h'⟩ | ⟨hj,h3⟩
  ·cases h'
   cases hna
  ·exact m.rows j fw z n g h3
 ·intro j cs' h i hi
  rcases hget j _ h with ⟨rfl,h'⟩ | ⟨hj,h3⟩
  ·cases h'
  ·simp only
   rw [if_neg hj]
   exact m.froz j cs' h3 i hi
 ·intro b' k k' h h'
  rcases hown b' k h with ⟨e1,rfl⟩ | ⟨e1,h1⟩
  ·rcases hown b' k' h' with ⟨_,rfl⟩ | ⟨e2,_⟩
   ·rfl
   ·exact absurd e1 e2
  ·rcases hown b' k' h' with ⟨e2,_⟩ | ⟨_,h2⟩
   ·exact absurd e2 e1
   ·exact m.own1 b' k k' h1 h2
 ·intro b' k h
  rcases hown b' k h with ⟨rfl,rfl⟩ | ⟨_,h1⟩
  ·rcases hB with h1 | ⟨h1,h2⟩
   ·exact .inl h1
   ·exact .inr ⟨h1,id,rfl,h2⟩
  ·exact m.own2 b' k h1
 ·intro b' r h
  obtain ⟨h1,h2,h3⟩:=m.resv b' r h
  refine ⟨h1,fun k hk=>?_,h3⟩
  rcases hown b' k hk with ⟨rfl,_⟩ | ⟨_,h4⟩
  ·have h:G.γ b'=some r:=h
   rw [hres] at h
   cases h
  ·exact h2 k h4
 ·intro j x va n ks vs h hx
  rcases hget j _ h with ⟨rfl,h'⟩ | ⟨hj,h3⟩
  ·cases h'
   obtain ⟨h1,es,ck,rfl,h2⟩:=hlin x va n ks vs rfl hx
   refine ⟨h1,es,ck,?_,h2⟩
   simp only [if_true]
   exact hb
  ·obtain ⟨h1,es,ck,h2,h4⟩:=m.lins j x va n ks vs h3 hx
   refine ⟨h1,es,ck,?_,h4⟩
   simp only
   rw [if_neg hj]
   exact h2
theorem Mem.addVar (m:Mem F B np w0 ext σ0 G hp tk w) (id b:Nat) (cs:List D) (c:Array Value) (e:TypeId)
  (hb:w.heap[b]? = some (.cells c e (0,0))) (hs:aQ cs=true) (hc:c.size=cs.length)
  (hr:∀ j,j < cs.length→Rc F { G with β:=fun j=>if j=id then b else G.β j } tk (c.getD j undef) (nth cs j .dead))
  (hσ:∀ o,G.σ b o=none) (hno:∀ k,¬cL G hp tk b k) (hB:B≤b∨(b∈ext∧id < np∧id < ext.length))
  (hfree:hp id=none) (hcl:∀ id' f cs',hp id'=some (f,cs')→names id (id+1) cs'=false) (hres:G.γ b=none) :
  Mem F B np w0 ext σ0 { G with β:=fun j=>if j=id then b else G.β j } (fun j=>bif Nat.beq j id then some (false,cs) else hp j) tk w :=
 m.addObj id b cs _ hb (.inl ⟨hs,c,e,rfl,hc,hr⟩) hσ hno hB hfree hcl hres (fun x va n ks vs h _=>by
  subst h
  cases x <;> cases hs)
theorem Mem.addTok (m:Mem F B np w0 ext σ0 G hp tk w) (i z n c:Nat) (a:Option Addr) (hnc:n≤c)
  (hblk:n < c→∃ b cur e,a=some ⟨b,0,none⟩∧w.heap[b]? = some (.cells cur e (0,0))∧cur.size=c * z∧(∀ o,n * z≤o→G.σ b o=none)∧(∀ k,k≠.inr i→¬cL G hp tk b k)∧B≤b∧G.γ b=none)
  (hcl:∀ id' f cs',hp id'=some (f,cs')→∀ j,j < cs'.length→(∃ z' m' g,nth cs' j .dead=.slice (.own i) z' m' g)→∃ z0 m0,tk i=some (z0,m0)∧m0≤n∧(m0=n→G.ρ i=.slice a n c)) :
  Mem F B np w0 ext σ0 { G with ρ:=fun j=>if j=i then .slice a n c else G.ρ j } hp (fun j=>bif Nat.beq j i then some (z,n) else tk j) w:=by
 have hget:∀ j x,(bif Nat.beq j i then some (z,n) else tk j)=some x→(j=i∧x=(z,n))∨(j≠i∧tk j=some x):=by
  intro j x h
  by_cases hj:j=i
  ·subst hj
   rw [Nat.beq_refl] at h
   simp only [cond_true,Option.some.injEq] at h
   exact .inl ⟨rfl,h.symm⟩
  ·have:Nat.beq j i=false:=by
    cases hh:Nat.beq j i with
    | false=>rfl
    | true=>exact absurd (Nat.eq_of_beq_eq_true hh) hj
   rw [this] at h
   exact .inr ⟨hj,h⟩
 have hown:∀ b' k,cL { G with ρ:=fun j=>if j=i then .slice a n c else G.ρ j } hp (fun j=>bif Nat.beq j i then some (z,n) else tk j) b' k →
   (k=.inr i∧a=some ⟨b',0,none⟩∧n < c)∨(k≠.inr i∧cL G hp tk b' k):=by
  intro b' k h
  cases k with
  | inl j=>exact .inr ⟨by simp,h⟩
  | inr j =>
   obtain ⟨z',n',c',h1,h2,h3⟩:=h
   simp only at h1 h2
   rcases hget j _ h1 with ⟨rfl,h'⟩ | ⟨hj,h4⟩
   ·cases h'
    rw [if_pos rfl] at h2
    cases h2
    exact .inl ⟨rfl,rfl,h3⟩
   ·rw [if_neg hj] at h2
    exact .inr ⟨fun hh=>hj (Sum.inr.inj hh),z',n',c',h4,h2,h3⟩
 refine ⟨m.stab,m.old,m.os,m.tape,m.output,m.base,m.keep,?_,m.rows,m.froz,?_,?_,?_,?_,m.lins⟩
 ·intro id cs h hna
  obtain ⟨o',h1,h4,h5⟩:=m.vars id cs h hna
  refine ⟨o',h1,h4.imp fun j v hj hr=>?_,h5⟩
  have hcl':=hcl id _ cs h j hj
  generalize nth cs j .dead=d at hr hcl' ⊢
  cases hr with
  | pure h6 h7 =>
   refine .pure h6 ?_
   cases d with
   | slice t zz l g =>
    cases t with
    | ro=>trivial
    | full=>exact h7
    | own i' =>
     intro z' m' hz'
     rcases hget i' _ hz' with ⟨rfl,h'⟩ | ⟨hj',h8⟩
     ·cases h'
      obtain ⟨z0,m0,e1,e2,e3⟩:=hcl' ⟨zz,l,g,rfl⟩
      obtain ⟨e4,e5⟩:=h7 z0 m0 e1
      refine ⟨by omega,fun e6=>?_⟩
      simp only [if_true]
      rw [← e3 (by omega)]
      exact e5 (by omega)
     ·simp only
      rw [if_neg hj']
      exact h7 z' m' h8
   | _=>trivial
  | ptr id off=>exact .ptr id off
  | eptr b o l h6=>exact .eptr b o l h6
  | fn f cap l h6 h7=>exact .fn f cap l h6 h7
  | mp vk vv va n ks vs e1 e2 e3 e4=>exact .mp vk vv va n ks vs e1 e2 e3 e4
 ·intro j z' n' h
  rcases hget j _ h with ⟨rfl,h'⟩ | ⟨hj,h4⟩
  ·cases h'
   refine ⟨a,c,by simp,hnc,fun hlt=>?_⟩
   obtain ⟨b,cur,e,h1,h2,h3,h5,_⟩:=hblk hlt
   exact ⟨b,cur,e,h1,h2,h3,h5⟩
  ·simp only
   rw [if_neg hj]
   exact m.toks j z' n' h4
 ·intro b' k k' h h'
  rcases hown b' k h with ⟨rfl,ha,hlt⟩ | ⟨hne,h1⟩
  ·rcases hown b' k' h' with ⟨rfl,_⟩ | ⟨hne',h2⟩
   ·rfl
   ·obtain ⟨b,cur,e,e1,_,_,_,e2,_⟩:=hblk hlt
    rw [ha] at e1
    cases e1
    exact absurd h2 (e2 k' hne')
  ·rcases hown b' k' h' with ⟨rfl,ha,hlt⟩ | ⟨_,h2⟩
   ·obtain ⟨b,cur,e,e1,_,_,_,e2,_⟩:=hblk hlt
    rw [ha] at e1
    cases e1
    exact absurd h1 (e2 k hne)
   ·exact m.own1 b' k k' h1 h2
 ·intro b' k h
  rcases hown b' k h with ⟨rfl,ha,hlt⟩ | ⟨_,h1⟩
  ·obtain ⟨b,cur,e,e1,_,_,_,_,e3,_⟩:=hblk hlt
   rw [ha] at e1
   cases e1
   exact .inl e3
  ·exact m.own2 b' k h1
 ·intro b' r h
  obtain ⟨h1,h2,h3⟩:=m.resv b' r h
  refine ⟨h1,fun k hk=>?_,h3⟩
  rcases hown b' k hk with ⟨_,ha,hlt⟩ | ⟨_,h4⟩
  ·obtain ⟨b,cur,e,e1,_,_,_,_,_,e3⟩:=hblk hlt
   rw [ha] at e1
   cases e1
   have h:G.γ b'=some r:=h
   rw [e3] at h
   cases h
  ·exact h2 k h4
end
section
variable {F:Nat→FuncId} {B np:Nat} {w0 w w':World} {ext:List Nat} {σ0:Og} {G:Gh} {hp:Nat→Option (Bool×List D)} {tk:Nat→Option (Nat×Nat)}
theorem a8 {α:Type} {f:Nat→Option α} {i:Nat} {e:α} {j:Nat} {x:α} (h:(bif Nat.beq j i then some e else f j)=some x):(j=i∧x=e)∨(j≠i∧f j=some x):=by
 by_cases hj:j=i
 ·subst hj
  rw [Nat.beq_refl] at h
  simp only [cond_true,Option.some.injEq] at h
  exact .inl ⟨rfl,h.symm⟩
 ·have:Nat.beq j i=false:=by
   cases hh:Nat.beq j i with
   | false=>rfl
   | true=>exact absurd (Nat.eq_of_beq_eq_true hh) hj
  rw [this] at h
  exact .inr ⟨hj,h⟩
structure vB (b:Nat) (w w':World):Prop where
 os:w'.os=w.os
 tape:w'.tape=w.tape
 output:w'.output=w.output
 size:w'.heap.size=w.heap.size
 other:∀ k,k≠b→w'.heap[k]? = w.heap[k]?
theorem Mem.setObj (m:Mem F B np w0 ext σ0 G hp tk w) (id:Nat) (cs cs':List D) (h:hp id=some (false,cs)) (ob:Obj) (hw:vB (G.β id) w w')
  (hb:w'.heap[G.β id]? = some ob) (hna:cM cs=false) (hr:HoldsO F G tk ob cs')
  (hlin:∀ x va n ks vs,cs'=[x,.mp va n ks vs]→x≠.dead→(va=true∧(x=.nilp∨∃ k,x=.str k))∧∃ es ck,ob=.map es ck∧LinR G.γ id x n ks vs (uQ es)) :
  Mem F B np w0 ext σ0 G (fun j=>bif Nat.beq j id then some (false,cs') else hp j) tk w':=by
 have hna':=hr.noArr
 have hown:∀ b k,cL G (fun j=>bif Nat.beq j id then some (false,cs') else hp j) tk b k→cL G hp tk b k:=by
  intro b k hk
  cases k with
  | inl j =>
   obtain ⟨x,h1,h2⟩:=hk
   rcases a8 h1 with ⟨rfl,hx⟩ | ⟨_,h3⟩
   ·cases hx
    exact ⟨cs,h,.inl ⟨hna,h2.flat hna'⟩⟩
   ·exact ⟨x,h3,h2⟩
  | inr i=>exact hk
 have hne:∀ b k,cL G hp tk b k→k≠.inl id→b≠G.β id:=by
  intro b k hk hkk hbb
  subst hbb
  exact hkk (m.own1 _ _ _ hk ⟨cs,h,.inl ⟨hna,rfl⟩⟩)
 obtain ⟨_,_,_,hσ⟩:=m.vars id cs h hna
 refine ⟨?_,m.old,hw.os.trans m.os,hw.tape.trans m.tape,hw.output.trans m.output,by rw [hw.size]; exact m.base,?_,?_,?_,?_,?_,?_,?_,?_,?_⟩
 ·intro b o v hv
  obtain ⟨h1,c,e',fz,h2,h3⟩:=m.stab b o v hv
  refine ⟨h1,c,e',fz,?_,h3⟩
  rw [hw.other b (fun hbb=>by rw [hbb,hσ o] at hv; cases hv)]
  exact h2
 ·intro b hB he
  rw [hw.other b (fun hbb=>?_)]
  ·exact m.keep b hB he
  ·rcases m.own2 (G.β id) (.inl id) ⟨cs,h,.inl ⟨hna,rfl⟩⟩ with h1 | ⟨h1,_⟩
   ·omega
   ·exact he (hbb ▸ h1)
 ·intro j x hx hnx
  rcases a8 hx with ⟨rfl,hx'⟩ | ⟨hj,h3⟩
  ·cases hx'
   exact ⟨ob,hb,hr,hσ⟩
  ·obtain ⟨o',h1,h4,h5⟩:=m.vars j x h3 hnx
   refine ⟨o',?_,h4,h5⟩
   rw [hw.other _ (hne _ (.inl j) ⟨x,h3,.inl ⟨hnx,rfl⟩⟩ (fun hh=>hj (Sum.inl.inj hh)))]
   exact h1
 ·intro j fw z n g hx
  rcases a8 hx with ⟨rfl,hx'⟩ | ⟨hj,h3⟩
  ·cases hx'
   cases hna'
  ·obtain ⟨a,c,h1,h2⟩:=m.rows j fw z n g h3
   refine ⟨a,c,h1,fun b hb hc=>?_⟩
   obtain ⟨h4,o',h5,h6⟩:=h2 b hb hc
   refine ⟨h4,o',?_,h6⟩
   rw [hw.other _ (hne _ (.inl j) ⟨_,h3,.inr ⟨fw,z,n,g,c,rfl,by rw [h1.at_,hb],hc⟩⟩ (fun hh=>hj (Sum.inl.inj hh)))]
   exact h5
 ·intro j x hx i hi
  rcases a8 hx with ⟨rfl,hx'⟩ | ⟨hj,h3⟩
  ·cases hx'
  ·exact m.froz j x h3 i hi
 ·intro i z n hi
  obtain ⟨a,c,h1,h2,h3⟩:=m.toks i z n hi
  refine ⟨a,c,h1,h2,fun hn=>?_⟩
  obtain ⟨b,cur,e',h4,h5,h6,h7⟩:=h3 hn
  refine ⟨b,cur,e',h4,?_,h6,h7⟩
  rw [hw.other b (hne b (.inr i) ⟨z,n,c,hi,by rw [h1,h4],hn⟩ (by simp))]
  exact h5
 ·exact fun b k k' hk hk'=>m.own1 b k k' (hown b k hk) (hown b k' hk')
 ·exact fun b k hk=>m.own2 b k (hown b k hk)
 ·intro b r hb2
  obtain ⟨h1,h2,h3,cur,e',h4,h5⟩:=m.resv b r hb2
  refine ⟨h1,fun k hk=>h2 k (hown b k hk),h3,cur,e',?_,h5⟩
  rw [hw.other b (fun hbb=>h2 (.inl id) ⟨cs,h,.inl ⟨hna,hbb.symm⟩⟩)]
  exact h4
 ·intro j x va n ks vs hx hxd
  rcases a8 hx with ⟨rfl,hx'⟩ | ⟨hj,h3⟩
  ·cases hx'
   obtain ⟨h1,es,ck,rfl,h2⟩:=hlin x va n ks vs rfl hxd
   exact ⟨h1,es,ck,hb,h2⟩
  ·obtain ⟨h1,es,ck,h2,h4⟩:=m.lins j x va n ks vs h3 hxd
   refine ⟨h1,es,ck,?_,h4⟩
   rw [hw.other _ (hne _ (.inl j) ⟨_,h3,.inl ⟨by cases x <;> rfl,rfl⟩⟩ (fun hh=>hj (Sum.inl.inj hh)))]
   exact h2
theorem Mem.setVar (m:Mem F B np w0 ext σ0 G hp tk w) (id:Nat) (cs cs':List D) (h:hp id=some (false,cs)) (c':Array Value) (e:TypeId) (hw:vB (G.β id) w w')
  (hb:w'.heap[G.β id]? = some (.cells c' e (0,0))) (hna:cM cs=false) (hs:aQ cs'=true) (hlen:c'.size=cs'.length) (hr:∀ j,j < cs'.length→Rc F G tk (c'.getD j undef) (nth cs' j .dead)) :
  Mem F B np w0 ext σ0 G (fun j=>bif Nat.beq j id then some (false,cs') else hp j) tk w' :=
 m.setObj id cs cs' h _ hw hb hna (.inl ⟨hs,c',e,rfl,hlen,hr⟩) (fun x va n ks vs h _=>by
  subst h
  cases x <;> cases hs)
theorem Mem.freezeVar (m:Mem F B np w0 ext σ0 G hp tk w) (id:Nat) (cs:List D) (h:hp id=some (false,cs)) (hsol:aQ cs=true) (c:Array Value) (e:TypeId) (hb:w.heap[G.β id]? = some (.cells c e (0,0))) (hB:B≤G.β id) :
  Mem F B np w0 ext σ0 { G with σ:=aT G.σ (G.β id) (fun o=>c[o]?) } (fun j=>bif Nat.beq j id then some (true,aV cs) else hp j) tk w:=by
 have hna:=cK hsol
 obtain ⟨o0,hb0,hh0,hσ⟩:=m.vars id cs h hna
 obtain ⟨c0,e0,rfl,hlen,hr⟩:=hh0.cells hsol
 rw [hb] at hb0
 cases hb0
 have hle:SgLe G.σ (aT G.σ (G.β id) (fun o=>c[o]?)):=by
  intro b o v hv
  unfold aT
  rw [if_neg (fun hbb=>by rw [hbb,hσ o] at hv; cases hv)]
  exact hv
 have hget:∀ j,j < cs.length→c[j]? = some (c.getD j undef):=by
  intro j hj
  have:j < c.size:=by omega
  simp [this]
 have hown:∀ b k,cL { G with σ:=aT G.σ (G.β id) (fun o=>c[o]?) } (fun j=>bif Nat.beq j id then some (true,aV cs) else hp j) tk b k→cL G hp tk b k∧k≠.inl id:=by
  intro b k hk
  cases k with
  | inl j =>
   obtain ⟨x,h1,h2⟩:=hk
   rcases a8 h1 with ⟨_,hx⟩ | ⟨hj,h3⟩
   ·cases hx
   ·exact ⟨⟨x,h3,h2⟩,fun hh=>hj (Sum.inl.inj hh)⟩
  | inr i=>exact ⟨hk,by simp⟩
 have hne:∀ b k,cL G hp tk b k→k≠.inl id→b≠G.β id:=by
  intro b k hk hkk hbb
  subst hbb
  exact hkk (m.own1 _ _ _ hk ⟨cs,h,.inl ⟨hna,rfl⟩⟩)
 refine ⟨?_,?_,m.os,m.tape,m.output,m.base,m.keep,?_,?_,?_,?_,?_,?_,?_,?_⟩
 ·intro b o v hv
  by_cases hbb:b=G.β id
  ·subst hbb
   simp only [aT,if_true] at hv
   refine ⟨?_,c,e,(0,0),hb,hv⟩
   have ho:o < cs.length:=by
    have:=(Array.getElem?_eq_some_iff.1 hv).1
    omega
   have:=(hr o ho).oneCell (lD hsol ho) (nI hsol)
   rw [hget o ho] at hv
   cases hv
   exact this
  ·simp only [aT,if_neg hbb] at hv
   exact m.stab b o v hv
 ·intro b o hb'
  simp only [aT]
  rw [if_neg (by omega)]
  exact m.old b o hb'
 ·intro j x hx hnx
  rcases a8 hx with ⟨_,hx'⟩ | ⟨hj,h3⟩
  ·cases hx'
  ·obtain ⟨o',h1,h4,h5⟩:=m.vars j x h3 hnx
   refine ⟨o',h1,h4.imp fun i v hi hr=>hr.more hle,fun o=>?_⟩
   simp only [aT]
   rw [if_neg (hne _ (.inl j) ⟨x,h3,.inl ⟨hnx,rfl⟩⟩ (fun hh=>hj (Sum.inl.inj hh)))]
   exact h5 o
 ·intro j fw z n g hx
  rcases a8 hx with ⟨_,hx'⟩ | ⟨hj,h3⟩
  ·cases hx'
  ·obtain ⟨a,c',h1,h2⟩:=m.rows j fw z n g h3
   refine ⟨a,c',h1,fun b hb hc=>?_⟩
   obtain ⟨h4,o',h5,h6⟩:=h2 b hb hc
   refine ⟨fun q=>?_,o',h5,h6.mono hle⟩
   simp only [aT]
   rw [if_neg (hne _ (.inl j) ⟨_,h3,.inr ⟨fw,z,n,g,c',rfl,by rw [h1.at_,hb],hc⟩⟩ (fun hh=>hj (Sum.inl.inj hh)))]
   exact h4 q
 ·intro j x hx i hi
  rcases a8 hx with ⟨rfl,hx'⟩ | ⟨hj,h3⟩
  ·cases hx'
   rw [aU] at hi
   refine ⟨c.getD i undef,?_,?_,?_⟩
   ·simp only [aT,if_true]
    exact hget i hi
   ·rw [bF]
    exact (hr i hi).pure1.mono hle
   ·rw [bF,b7]
  ·obtain ⟨v,h4,h5,h6⟩:=m.froz j x h3 i hi
   exact ⟨v,hle _ _ _ h4,h5.mono hle,h6⟩
 ·intro i z n hi
  obtain ⟨a,c',h1,h2,h3⟩:=m.toks i z n hi
  refine ⟨a,c',h1,h2,fun hn=>?_⟩
  obtain ⟨b,cur,e',h4,h5,h6,h7⟩:=h3 hn
  refine ⟨b,cur,e',h4,h5,h6,fun o ho=>?_⟩
  simp only [aT]
  rw [if_neg (hne b (.inr i) ⟨z,n,c',hi,by rw [h1,h4],hn⟩ (by simp))]
  exact h7 o ho
 ·exact fun b k k' hk hk'=>m.own1 b k k' (hown b k hk).1 (hown b k' hk').1
 ·exact fun b k hk=>m.own2 b k (hown b k hk).1
 ·intro b r hb2
  obtain ⟨h1,h2,h3,cur,e',h4,h5⟩:=m.resv b r hb2
  refine ⟨h1,fun k hk=>h2 k (hown b k hk).1,fun o ho=>?_,cur,e',h4,h5⟩
  simp only [aT]
  rw [if_neg (fun hbb=>h2 (.inl id) ⟨cs,h,.inl ⟨hna,hbb.symm⟩⟩)]
  exact h3 o ho
 ·intro j x va n ks vs hx hxd
  rcases a8 hx with ⟨_,hx'⟩ | ⟨hj,h3⟩
  ·cases hx'
  ·exact m.lins j x va n ks vs h3 hxd
theorem Mem.setArr (m:Mem F B np w0 ext σ0 G hp tk w) {id z n:Nat} {g:Nat→List D} {fw:Bool} {a:Option Addr} {c:Nat} (h:hp id=some (false,[.dead,.arr fw z n g])) (hη:G.η id n=some (.slice a n c)) {z' n' c':Nat} {g':Nat→List D} {a':Option Addr}
  (hos:w'.os=w.os) (htp:w'.tape=w.tape) (hout:w'.output=w.output) (hsz:w.heap.size≤w'.heap.size) (hoth:∀ k,k < w.heap.size→(∀ b,a=some ⟨b,0,none⟩→0 < c→k≠b)→w'.heap[k]? = w.heap[k]?)
  (hn:n≤n') (hnc:n'≤c') (hsame:n'=n→a'=a∧c'=c) (hmine:id < np→n'=n)
  (hblk:0 < c'→∃ b,a'=some ⟨b,0,none⟩∧((0 < c∧a=some ⟨b,0,none⟩)∨w.heap.size≤b)∧∃ o,w'.heap[b]? = some o∧RowO G.σ o z' n' c' g') (lo hi:Nat) :
  Mem F B np w0 ext σ0 { G with η:=fun i k=>if i=id∧k=n' then some (.slice a' n' c') else G.η i k } (fun j=>bif Nat.beq j id then some (false,[.dead,.arr fw z' n' g']) else hp j) tk w' ∧
  Keeps lo hi G { G with η:=fun i k=>if i=id∧k=n' then some (.slice a' n' c') else G.η i k } tk tk:=by
 obtain ⟨a0,c0,hd,hr⟩:=m.rows id fw z n g h
 rw [hd.at_] at hη
 cases hη
 have hkeep:∀ lo hi,Keeps lo hi G { G with η:=fun i k=>if i=id∧k=n' then some (.slice a' n' c') else G.η i k } tk tk:=fun lo hi =>
  ⟨SgLe.refl _,fun _ _=>rfl,fun _ z m _ e=>⟨z,m,e,Nat.le_refl _,fun _=>rfl⟩,fun i k v _ e=>by
   simp only
   by_cases hc:i=id∧k=n'
   ·obtain ⟨rfl,rfl⟩:=hc
    rw [if_pos ⟨rfl,rfl⟩]
    rcases Nat.lt_or_ge n k with h1 | h1
    ·rw [hd.none k h1] at e
     cases e
    ·have:k=n:=by omega
     obtain ⟨rfl,rfl⟩:=hsame this
     subst this
     rw [hd.at_] at e
     exact e
   ·rw [if_neg hc]
    exact e⟩
 refine ⟨?_,hkeep lo hi⟩
 have howner:∀ b,a=some ⟨b,0,none⟩→0 < c→cL G hp tk b (.inl id):=fun b hb hc=>⟨_,h,.inr ⟨fw,z,n,g,c,rfl,by rw [hd.at_,hb],hc⟩⟩
 have hown:∀ b k,cL { G with η:=fun i k=>if i=id∧k=n' then some (.slice a' n' c') else G.η i k } (fun j=>bif Nat.beq j id then some (false,[.dead,.arr fw z' n' g']) else hp j) tk b k→cL G hp tk b k∨(w.heap.size≤b∧k=.inl id):=by
  intro b k hk
  cases k with
  | inl j =>
   obtain ⟨x,h1,h2⟩:=hk
   rcases a8 h1 with ⟨rfl,hx⟩ | ⟨hj,h3⟩
   ·cases hx
    have h2:Blk _ j _ b:=h2
    rcases h2 with ⟨h4,_⟩ | ⟨_,_,_,_,c2,h4,h5,h6⟩
    ·cases h4
    ·cases h4
     simp only [and_self,if_true] at h5
     cases h5
     obtain ⟨b2,h7,h8,_⟩:=hblk h6
     cases h7
     rcases h8 with ⟨h8,h9⟩ | h8
     ·exact .inl (howner b h9 h8)
     ·exact .inr ⟨h8,rfl⟩
   ·exact .inl ⟨x,h3,h2.congr rfl fun k=>by simp only; rw [if_neg (fun hc=>hj hc.1)]⟩
  | inr i=>exact .inl hk
 have hne:∀ b k,cL G hp tk b k→k≠.inl id→w'.heap[b]? = w.heap[b]?:=by
  intro b k hk hkk
  refine hoth b (m.own_lt hk) fun b2 h1 h2 hbb=>?_
  subst hbb
  exact hkk (m.own1 _ _ _ hk (howner b h1 h2))
 refine ⟨?_,m.old,hos.trans m.os,htp.trans m.tape,hout.trans m.output,Nat.le_trans m.base hsz,?_,?_,?_,?_,?_,?_,?_,?_,?_⟩
 ·intro b o v hv
  obtain ⟨h1,c1,e',fz,h2,h3⟩:=m.stab b o v hv
  refine ⟨h1,c1,e',fz,?_,h3⟩
  rw [hoth b (m.lt hv) fun b2 h4 h5 hbb=>?_]
  ·exact h2
  ·subst hbb
   have:=(hr b h4 h5).1 o
   rw [this] at hv
   cases hv
 ·intro b hB he
  rw [hoth b (Nat.lt_of_lt_of_le hB m.base) fun b2 h4 h5 hbb=>?_]
  ·exact m.keep b hB he
  ·subst hbb
   rcases m.own2 b _ (howner b h4 h5) with h1 | ⟨h1,_⟩
   ·omega
   ·exact he h1
 ·intro j x hx hnx
  rcases a8 hx with ⟨rfl,hx'⟩ | ⟨hj,h3⟩
  ·cases hx'
   cases hnx
  ·obtain ⟨o',h1,h4,h5⟩:=m.vars j x h3 hnx
   refine ⟨o',?_,h4.imp fun q v _ hr=>hr.keep (hkeep 0 0) (b6 _),h5⟩
   rw [hne _ (.inl j) ⟨x,h3,.inl ⟨hnx,rfl⟩⟩ (fun hh=>hj (Sum.inl.inj hh))]
   exact h1
 ·intro j fw2 z2 n2 g2 hx
  rcases a8 hx with ⟨rfl,hx'⟩ | ⟨hj,h3⟩
  ·cases hx'
   refine ⟨a',c',⟨by simp,hnc,fun k hk=>?_,fun hlt=>?_,fun hc=>?_⟩,fun b hb hc=>?_⟩
   ·simp only
    rw [if_neg (by omega)]
    exact hd.none k (by omega)
   ·obtain ⟨h1,h2⟩:=hd.mine hlt
    have h3:=hmine hlt
    obtain ⟨rfl,rfl⟩:=hsame h3
    rw [h3]
    exact ⟨h1,h2⟩
   ·obtain ⟨b,h1,_⟩:=hblk hc
    exact ⟨b,h1⟩
   ·obtain ⟨b2,h1,h2,o,h3,h4⟩:=hblk hc
    rw [hb] at h1
    cases h1
    refine ⟨fun q=>?_,o,h3,h4⟩
    rcases h2 with ⟨h5,h6⟩ | h5
    ·exact (hr b h6 h5).1 q
    ·cases hq:G.σ b q with
     | none=>rfl
     | some v=>have:=m.lt hq; omega
  ·obtain ⟨a1,c1,h1,h2⟩:=m.rows j fw2 z2 n2 g2 h3
   refine ⟨a1,c1,⟨?_,h1.le,fun k hk=>?_,h1.mine,h1.blk⟩,fun b hb hc=>?_⟩
   ·simp only
    rw [if_neg (fun hc=>hj hc.1)]
    exact h1.at_
   ·simp only
    rw [if_neg (fun hc=>hj hc.1)]
    exact h1.none k hk
   ·obtain ⟨h4,o',h5,h6⟩:=h2 b hb hc
    refine ⟨h4,o',?_,h6⟩
    rw [hne _ (.inl j) ⟨_,h3,.inr ⟨fw2,z2,n2,g2,c1,rfl,by rw [h1.at_,hb],hc⟩⟩ (fun hh=>hj (Sum.inl.inj hh))]
    exact h5
 ·intro j x hx i hi
  rcases a8 hx with ⟨rfl,hx'⟩ | ⟨hj,h3⟩
  ·cases hx'
  ·exact m.froz j x h3 i hi
 ·intro i z2 n2 hi
  obtain ⟨a1,c1,h1,h2,h3⟩:=m.toks i z2 n2 hi
  refine ⟨a1,c1,h1,h2,fun hlt=>?_⟩
  obtain ⟨b,cur,e',h4,h5,h6,h7⟩:=h3 hlt
  refine ⟨b,cur,e',h4,?_,h6,h7⟩
  rw [hne b (.inr i) ⟨z2,n2,c1,hi,by rw [h1,h4],hlt⟩ (by simp)]
  exact h5
 ·intro b k k' hk hk'
  rcases hown b k hk with h1 | ⟨h1,rfl⟩
  ·rcases hown b k' hk' with h2 | ⟨h2,_⟩
   ·exact m.own1 b k k' h1 h2
   ·have:=m.own_lt h1
    omega
  ·rcases hown b k' hk' with h2 | ⟨_,rfl⟩
   ·have:=m.own_lt h2
    omega
   ·rfl
 ·intro b k hk
  rcases hown b k hk with h1 | ⟨h1,_⟩
  ·exact m.own2 b k h1
  ·exact .inl (Nat.le_trans m.base h1)
 ·intro b r hb2
  obtain ⟨h1,h2,h3,cur,e',h4,h5⟩:=m.resv b r hb2
  have hlt:=(Array.getElem?_eq_some_iff.1 h4).1
  refine ⟨h1,fun k hk=>?_,h3,cur,e',?_,h5⟩
  ·rcases hown b k hk with h6 | ⟨h6,_⟩
   ·exact h2 k h6
   ·omega
  ·rw [hoth b hlt fun b2 h6 h7 hbb=>?_]
   ·exact h4
   ·subst hbb
    exact h2 _ (howner b h6 h7)
 ·intro j x va n2 ks vs hx hxd
  rcases a8 hx with ⟨_,hx'⟩ | ⟨hj,h3⟩
  ·cases hx'
  ·obtain ⟨h1,es,ck,h2,h4⟩:=m.lins j x va n2 ks vs h3 hxd
   refine ⟨h1,es,ck,?_,h4⟩
   rw [hne _ (.inl j) ⟨_,h3,.inl ⟨by cases x <;> rfl,rfl⟩⟩ (fun hh=>hj (Sum.inl.inj hh))]
   exact h2
theorem Gh.same {G:Gh} {id n:Nat} {v:Value} (h:G.η id n=some v):{ G with η:=fun i k=>if i=id∧k=n then some v else G.η i k }=G:=by
 cases G with
 | mk σ β ρ η γ =>
  congr 1
  funext i k
  by_cases hc:i=id∧k=n
  ·obtain ⟨rfl,rfl⟩:=hc
   simp only [and_self,if_true]
   exact h.symm
  ·simp only
   rw [if_neg hc]
theorem Mem.growTok (m:Mem F B np w0 ext σ0 G hp tk w) (i z n k c b:Nat) (cur cur':Array Value) (e:TypeId) (news:List Value) (h:tk i=some (z,n))
  (hρ:G.ρ i=.slice (some ⟨b,0,none⟩) n c) (hroom:n+k≤c) (hk:0 < k) (hb:w.heap[b]? = some (.cells cur e (0,0))) (hcs:cur.size=c * z)
  (hw:vB b w w') (hb':w'.heap[b]? = some (.cells cur' e (0,0))) (hsz:cur'.size=cur.size) (hlen:news.length=k * z) (h1:∀ v∈news,v.oneCell'=true)
  (hold:∀ o,o < n * z→cur'[o]? = cur[o]?) (hnew:∀ o,o < k * z→cur'[n * z+o]? = news[o]?) :
  Mem F B np w0 ext σ0 { G with σ:=fun b' o=>if b'=b∧n * z≤o∧o < (n+k) * z then cur'[o]? else G.σ b' o,ρ:=fun j=>if j=i then .slice (some ⟨b,0,none⟩) (n+k) c else G.ρ j } hp
   (fun j=>bif Nat.beq j i then some (z,n+k) else tk j) w' ∧
  SgLe G.σ (fun b' o=>if b'=b∧n * z≤o∧o < (n+k) * z then cur'[o]? else G.σ b' o):=by
 obtain ⟨a0,c0,e0,hnc,htail⟩:=m.toks i z n h
 rw [hρ] at e0
 cases e0
 have hlt:n < c:=by omega
 obtain ⟨b0,cur0,e0,hb0,hh0,hcs0,hσ⟩:=htail hlt
 cases hb0
 have hmul:(n+k) * z=n * z+k * z:=Nat.add_mul _ _ _
 have hle:SgLe G.σ (fun b' o=>if b'=b∧n * z≤o∧o < (n+k) * z then cur'[o]? else G.σ b' o):=by
  intro b' o v hv
  by_cases hc:b'=b∧n * z≤o∧o < (n+k) * z
  ·rw [hc.1,hσ o hc.2.1] at hv
   cases hv
  ·simp only
   rw [if_neg hc]
   exact hv
 have howner:cL G hp tk b (.inr i):=⟨z,n,c,h,hρ,hlt⟩
 have hne:∀ b' k',cL G hp tk b' k'→k'≠.inr i→b'≠b:=by
  intro b' k' hk' hkk hbb
  subst hbb
  exact hkk (m.own1 _ _ _ hk' howner)
 refine ⟨?_,hle⟩
 have hown:∀ b' k',cL { G with σ:=fun b' o=>if b'=b∧n * z≤o∧o < (n+k) * z then cur'[o]? else G.σ b' o,ρ:=fun j=>if j=i then .slice (some ⟨b,0,none⟩) (n+k) c else G.ρ j } hp
   (fun j=>bif Nat.beq j i then some (z,n+k) else tk j) b' k'→cL G hp tk b' k':=by
  intro b' k' hk'
  cases k' with
  | inl j=>exact hk'
  | inr j =>
   obtain ⟨z',n',c',h2,h3,h4⟩:=hk'
   rcases a8 h2 with ⟨rfl,hx⟩ | ⟨hj,h5⟩
   ·cases hx
    simp only [if_true] at h3
    cases h3
    exact howner
   ·simp only at h3
    rw [if_neg hj] at h3
    exact ⟨z',n',c',h5,h3,h4⟩
 have hkeep:∀ v d,Rc F G tk v d→Rc F { G with σ:=fun b' o=>if b'=b∧n * z≤o∧o < (n+k) * z then cur'[o]? else G.σ b' o,ρ:=fun j=>if j=i then .slice (some ⟨b,0,none⟩) (n+k) c else G.ρ j }
   (fun j=>bif Nat.beq j i then some (z,n+k) else tk j) v d:=by
  intro v d hr
  refine Rc.keep (G:=G) (G':={ G with σ:=fun b' o=>if b'=b∧n * z≤o∧o < (n+k) * z then cur'[o]? else G.σ b' o,ρ:=fun j=>if j=i then .slice (some ⟨b,0,none⟩) (n+k) c else G.ρ j }) (tk:=tk) (lo:=0) (hi:=0) ⟨hle,fun _ _=>rfl,?_,fun _ _ _ _ e=>e⟩ (b6 d) hr
  intro j z' m' _ hz'
  rcases a8 hz' with ⟨rfl,hx⟩ | ⟨hj,h5⟩
  ·cases hx
   exact ⟨z,n,h,by omega,fun hh=>by omega⟩
  ·exact ⟨z',m',h5,Nat.le_refl _,fun _=>by simp only; rw [if_neg hj]⟩
 refine ⟨?_,?_,hw.os.trans m.os,hw.tape.trans m.tape,hw.output.trans m.output,by rw [hw.size]; exact m.base,?_,?_,?_,?_,?_,?_,?_,?_,?_⟩
 ·intro b' o v hv
  simp only at hv
  by_cases hc:b'=b∧n * z≤o∧o < (n+k) * z
  ·rw [if_pos hc] at hv
   obtain ⟨rfl,h2,h3⟩:=hc
   refine ⟨?_,cur',e,(0,0),hb',hv⟩
   have h4:=hnew (o - n * z) (by omega)
   rw [show n * z+(o - n * z)=o from by omega,hv] at h4
   exact h1 v (List.mem_of_getElem? h4.symm)
  ·rw [if_neg hc] at hv
   obtain ⟨h2,c',e',fz,h3,h4⟩:=m.stab b' o v hv
   by_cases hbb:b'=b
   ·subst hbb
    have ho:o < n * z:=by
     rcases Nat.lt_or_ge o (n * z) with h5 | h5
     ·exact h5
     ·rw [hσ o h5] at hv; cases hv
    rw [hb] at h3
    cases h3
    exact ⟨h2,cur',e,(0,0),hb',by rw [hold o ho]; exact h4⟩
   ·exact ⟨h2,c',e',fz,by rw [hw.other b' hbb]; exact h3,h4⟩
 ·intro b' o hB
  simp only
  by_cases hc:b'=b∧n * z≤o∧o < (n+k) * z
  ·rcases m.own2 b _ howner with h2 | ⟨_,id,h2,_⟩
   ·omega
   ·cases h2
  ·rw [if_neg hc]
   exact m.old b' o hB
 ·intro b' hB he
  rw [hw.other b' (fun hbb=>?_)]
  ·exact m.keep b' hB he
  ·rcases m.own2 b _ howner with h2 | ⟨h2,_⟩
   ·omega
   ·exact he (hbb ▸ h2)
 ·intro j x hx hnx
  obtain ⟨o',h2,h4,h5⟩:=m.vars j x hx hnx
  have hbb:=hne _ (.inl j) ⟨x,hx,.inl ⟨hnx,rfl⟩⟩ (by simp)
  refine ⟨o',by rw [hw.other _ hbb]; exact h2,h4.imp fun q v hq hr=>hkeep _ _ hr,fun o=>?_⟩
  simp only
  rw [if_neg (fun hc=>hbb hc.1)]
  exact h5 o
 ·intro j fw z' n' g hx
  obtain ⟨a,c',h1,h2⟩:=m.rows j fw z' n' g hx
  refine ⟨a,c',h1,fun b' hb' hc=>?_⟩
  obtain ⟨h4,o',h5,h6⟩:=h2 b' hb' hc
  have hbb:=hne _ (.inl j) ⟨_,hx,.inr ⟨fw,z',n',g,c',rfl,by rw [h1.at_,hb'],hc⟩⟩ (by simp)
  refine ⟨fun q=>?_,o',by rw [hw.other _ hbb]; exact h5,h6.mono hle⟩
  simp only
  rw [if_neg (fun hc=>hbb hc.1)]
  exact h4 q
 ·intro j x hx q hq
  obtain ⟨v,h2,h3,h4⟩:=m.froz j x hx q hq
  exact ⟨v,hle _ _ _ h2,h3.mono hle,h4⟩
 ·intro j z' n' hj
  rcases a8 hj with ⟨rfl,hx⟩ | ⟨hji,h5⟩
  ·cases hx
   refine ⟨some ⟨b,0,none⟩,c,by simp,hroom,fun _=>⟨b,cur',e,rfl,hb',by rw [hsz,hcs],fun o ho=>?_⟩⟩
   simp only
   rw [if_neg (by omega)]
   exact hσ o (by have:=Nat.mul_le_mul_right z (show n≤n+k by omega); omega)
  ·obtain ⟨a,c',h2,h3,h4⟩:=m.toks j z' n' h5
   refine ⟨a,c',by simp only; rw [if_neg hji]; exact h2,h3,fun hn=>?_⟩
   obtain ⟨b2,cur2,e2,h6,h7,h8,h9⟩:=h4 hn
   have hbb:=hne b2 (.inr j) ⟨z',n',c',h5,by rw [h2,h6],hn⟩ (fun hh=>hji (Sum.inr.inj hh))
   refine ⟨b2,cur2,e2,h6,by rw [hw.other _ hbb]; exact h7,h8,fun o ho=>?_⟩
   simp only
   rw [if_neg (fun hc=>hbb hc.1)]
   exact h9 o ho
 ·exact fun b' k1 k2 h2 h3=>m.own1 b' k1 k2 (hown b' k1 h2) (hown b' k2 h3)
 ·exact fun b' k1 h2=>m.own2 b' k1 (hown b' k1 h2)
 ·intro b' r hb2
  obtain ⟨h2,h3,h4,cur2,e2,h5,h6⟩:=m.resv b' r hb2
  have hbb:b'≠b:=fun hh=>h3 _ (hh ▸ howner)
  refine ⟨h2,fun k hk=>h3 k (hown b' k hk),fun o ho=>?_,cur2,e2,by rw [hw.other _ hbb]; exact h5,h6⟩
  simp only
  rw [if_neg (fun hc=>hbb hc.1)]
  exact h4 o ho
 ·intro j x va n' ks vs hx hxd
  obtain ⟨h2,es,ck,h3,h4⟩:=m.lins j x va n' ks vs hx hxd
  refine ⟨h2,es,ck,?_,h4⟩
  rw [hw.other _ (hne _ (.inl j) ⟨_,hx,.inl ⟨by cases x <;> rfl,rfl⟩⟩ (by simp))]
  exact h3
end
structure Rel (F:Nat→FuncId) (B np:Nat) (w0:World) (ext:List Nat) (σ0:Og) (G:Gh) (s:St) (a:Act) (w:World):Prop where
 defers:a.defers=[]
 size:a.tmps.size=s.fr.length
 slots:∀ i,i < s.fr.length→Rd F G s.tk (a.tmps.getD i undef) (nth s.fr i .dead)
 mem:Mem F B np w0 ext σ0 G s.hp s.tk w
 par:∀ id,id < np→G.β id=ext.getD id 0
structure Clean (lo hi:Nat) (s:St):Prop where
 fr:∀ i,i < s.fr.length→(nth s.fr i .dead).names lo hi=false
 hp:∀ id f cs,s.hp id=some (f,cs)→¬(lo≤id∧id < hi)∧names lo hi cs=false
 tk:∀ i e,s.tk i=some e→¬(lo≤i∧i < hi)
section
variable {F:Nat→FuncId} {B np:Nat} {w0 w w':World} {ext:List Nat} {σ0:Og} {G G':Gh} {s:St} {a:Act} {hp:Nat→Option (Bool×List D)} {tk tk':Nat→Option (Nat×Nat)}
theorem yA {v:Value} {d:D} (h:i3 v=some d):Rc F G tk v d:=by
 unfold i3 at h
 split at h <;> cases h
 ·exact .pure (.bool _) trivial
 ·exact .pure (.int _ _) trivial
 ·exact .pure (.str _) trivial
 ·exact .pure .nilp trivial
 ·exact .pure (.slice none 0 0 .full 0 eM 0 0 (fun _ _=>undef) (Nat.le_refl _) (fun h=>absurd rfl h) (fun i hi=>by omega) (fun i j hi=>by omega) (fun i j hi=>by omega)) ⟨none,rfl⟩
theorem eI:∀ {l:List Value} {ds:List D},dM l=some ds→l.length=ds.length∧∀ j,j < ds.length→Rc F G tk (l.getD j undef) (nth ds j .dead)
 | [],ds,h=>by cases h; exact ⟨rfl,fun j hj=>by simp at hj⟩
 | v::l,ds,h=>by
  simp only [dM] at h
  split at h
  ·rename_i d ds' h1 h2
   cases h
   obtain ⟨h3,h4⟩:=eI h2
   refine ⟨by simp [h3],fun j hj=>?_⟩
   cases j with
   | zero=>exact yA h1
   | succ j=>exact h4 j (by simpa using hj)
  ·cases h
theorem bS (cs:Array Value) (j:Nat):cs.getD j undef=cs.toList.getD j undef:=by
 simp [Array.getD_eq_getD_getElem?]
theorem vZ {G:Gh} {tk:Nat→Option (Nat×Nat)} {v:Value} {d:D} (h:Rc F G tk v d) (z:Nat):Rc F G tk v (aAV z d):=by
 unfold aAV
 split
 ·cases h with | pure h h'=>cases h with | slice a n c t sz g b o val h1 h2 h3 h4 h5=>exact .pure (.slice a 0 c .full z _ b o val h1 h2 (fun i hi=>by omega) (fun i j hi=>by omega) (fun i j hi=>by omega)) h'
 ·exact h
theorem dE:∀ (l:List D) (zs:List Nat),(f7 l zs).length=l.length
 | [],_=>rfl
 | _::l,[]=>by simp [f7,dE l []]
 | _::l,_::zs=>by simp [f7,dE l zs]
theorem n6:∀ (l:List D) (zs:List Nat) (j:Nat),∃ z,nth (f7 l zs) j .dead=aAV z (nth l j .dead)
 | [],_,_=>⟨0,rfl⟩
 | _::_,[],0=>⟨0,rfl⟩
 | _::_,z::_,0=>⟨z,rfl⟩
 | _::l,[],j+1=>n6 l [] j
 | _::l,_::zs,j+1=>n6 l zs j
theorem nE {G:Gh} {tk:Nat→Option (Nat×Nat)} {vs:List Value} {l:List D} (h:∀ j,j < l.length→Rc F G tk (vs.getD j undef) (nth l j .dead)) (zs:List Nat):∀ j,j < (f7 l zs).length→Rc F G tk (vs.getD j undef) (nth (f7 l zs) j .dead):=fun j hj=>by
 rw [dE] at hj
 obtain ⟨z,hz⟩:=n6 l zs j
 rw [hz]
 exact vZ (h j hj) z
theorem aDX {v:Value} {d:D} (h:ofValue v=some d):Rd F G tk v d:=by
 unfold ofValue at h
 split at h
 ·rename_i cs
  cases hc:dM cs.toList with
  | none=>rw [hc] at h; cases h
  | some ds =>
   rw [hc] at h
   cases h
   obtain ⟨h1,h2⟩:=eI (F:=F) (G:=G) (tk:=tk) hc
   refine .any (.agg cs ds (by simpa using h1) fun j hj=>?_)
   rw [bS]
   exact h2 j hj
 ·exact .any (.cell (yA h))
theorem bP {ft:FT} (hft:∀ f j,ag ft f=some j→F j=f) (r:Rel F B np w0 ext σ0 G s a w) {x:Operand} {ax:AX} (h:trX ft x=some ax) :
  Rd F G s.tk (a.eval x) (ax.ev s.fr):=by
 cases x with
 | tmp t =>
  cases h
  simp only [AX.ev,Act.eval]
  by_cases ht:t < s.fr.length
  ·exact r.slots t ht
  ·rw [jM s.fr D.dead (Nat.le_of_not_lt ht)]
   exact Rd.dead _
 | const v =>
  simp only [trX,Option.map_eq_some_iff] at h
  obtain ⟨d,h1,rfl⟩:=h
  exact aDX h1
 | global g=>cases h
 | func f =>
  simp only [trX,Option.map_eq_some_iff] at h
  obtain ⟨j,h1,rfl⟩:=h
  have:=hft f j h1
  subst this
  exact .any (.cell (.fn j #[] [] rfl fun j hj=>by simp at hj))
theorem aDQ {ft:FT} (hft:∀ f j,ag ft f=some j→F j=f) (r:Rel F B np w0 ext σ0 G s a w):∀ {l:List Operand} {as:List AX},lO ft l=some as →
  l.length=as.length∧(evs s.fr as).length=as.length∧∀ j,j < as.length→Rd F G s.tk ((l.map a.eval).getD j undef) (nth (evs s.fr as) j .dead)
 | [],as,h=>by cases h; exact ⟨rfl,rfl,fun j hj=>by simp at hj⟩
 | x::l,as,h=>by
  simp only [lO] at h
  split at h
  ·rename_i ax as' h1 h2
   cases h
   obtain ⟨h3,h5,h4⟩:=aDQ hft r h2
   refine ⟨by simp [h3],by simp [evs,h5],fun j hj=>?_⟩
   cases j with
   | zero=>exact bP hft r h1
   | succ j=>exact h4 j (by simpa using hj)
  ·cases h
theorem Rel.put (r:Rel F B np w0 ext σ0 G s a w) {lo hi:Nat} (hnp:np≤lo) (hcl:Clean lo hi s) (k:Keeps lo hi G G' s.tk tk') (m:Mem F B np w0 ext σ0 G' hp tk' w') {v:Value} {d:D}
  (hv:Rd F G' tk' v d) (dst:Option Nat):Rel F B np w0 ext σ0 G' ⟨f8 dst d s.fr,hp,tk'⟩ (a.put dst v) w':=by
 have par:∀ id,id < np→G'.β id=ext.getD id 0:=fun id hid=>by rw [k.β id (by omega)]; exact r.par id hid
 cases dst with
 | none=>exact ⟨r.defers,r.size,fun i hi=>(r.slots i hi).keep k (hcl.fr i hi),m,par⟩
 | some t =>
  refine ⟨r.defers,?_,fun i hi=>?_,m,par⟩
  ·simp only [Act.put,f8,cR,Array.size_setIfInBounds]
   exact r.size
  ·simp only [f8,cR] at hi
   simp only [Act.put,f8]
   rw [gF]
   by_cases ht:t=i
   ·subst ht
    rw [if_pos ⟨rfl,hi⟩]
    have:(a.tmps.setIfInBounds t v).getD t undef=v:=by
     simp [Array.getD_eq_getD_getElem?,r.size,hi]
    rw [this]
    exact hv
   ·rw [if_neg (fun h=>ht h.1)]
    have:(a.tmps.setIfInBounds t v).getD i undef=a.tmps.getD i undef:=by
     simp [Array.getD_eq_getD_getElem?,Array.getElem?_setIfInBounds_ne ht]
    rw [this]
    exact (r.slots i hi).keep k (hcl.fr i hi)
theorem Rel.kill (r:Rel F B np w0 ext σ0 G s a w) (t:Nat):Rel F B np w0 ext σ0 G ⟨upd s.fr t .dead,s.hp,s.tk⟩ a w:=by
 refine ⟨r.defers,by simp only [cR]; exact r.size,fun i hi=>?_,r.mem,r.par⟩
 simp only [cR] at hi
 simp only
 rw [gF]
 split
 ·exact Rd.dead _
 ·exact r.slots i hi
end
def Out.holds (o:Out) (v:D) (u:Upd):Prop:=o=.ok v u∨(∃ p,p∧o=.ask p v u)∨o=.chk true v u∨(∃ v' u',o=.alt true v u v' u')∨∃ v' u',o=.alt false v' u' v u
def Does (F:Nat→FuncId) (B np:Nat) (w0:World) (ext:List Nat) (σ0:Og) (G:Gh) (hp:Nat→Option (Bool×List D)) (tk:Nat→Option (Nat×Nat)) (run:Result Next) (id n:Nat) (v:D) (u:Upd):Prop :=
 ∃ w' r v' G',run=.ok r w'∧(r=.value v'∨r=.skip∧v'=undef)∧Mem F B np w0 ext σ0 G' (eV hp u.h) (cX tk u.t) w'∧Rd F G' (cX tk u.t) v' v∧Keeps id (id+n) G G' tk (cX tk u.t)
section
variable {F:Nat→FuncId} {B np:Nat} {w0 w w':World} {ext:List Nat} {σ0:Og} {G G':Gh} {s:St} {a:Act} {hp:Nat→Option (Bool×List D)} {tk tk':Nat→Option (Nat×Nat)}
theorem Does.val (m:Mem F B np w0 ext σ0 G hp tk w) {v:Value} {d:D} (h:Rd F G tk v d) {run:Result Next} (hr:run=.ok (.value v) w) (id n:Nat):Does F B np w0 ext σ0 G hp tk run id n d Upd.none :=
 ⟨w,.value v,v,G,hr,.inl rfl,m,h,Keeps.refl _ _ _ _⟩
theorem Rd.int_inv {v:Value} {k:IntKind} {n:Int} (h:Rd F G tk v (.int k n)):v=.int k n:=by
 cases h with | any h=>cases h with | cell h=>cases h with | pure h _=>cases h; rfl
theorem Rd.bool_inv {v:Value} {b:Bool} (h:Rd F G tk v (.bool b)):v=.bool b:=by
 cases h with | any h=>cases h with | cell h=>cases h with | pure h _=>cases h; rfl
theorem Rd.str_inv {v:Value} {b:ByteArray} (h:Rd F G tk v (.str b)):v=.string b:=by
 cases h with | any h=>cases h with | cell h=>cases h with | pure h _=>cases h; rfl
theorem Rd.ptr_inv {v:Value} {i o:Nat} (h:Rd F G tk v (.ptr i o)):v=.pointer (some ⟨G.β i,o,none⟩):=by
 cases h with | any h=>cases h with | cell h=>cases h with | pure h _=>cases h | ptr _ _=>rfl
theorem Rd.eptr_inv {v:Value} {l:List D} (h:Rd F G tk v (.eptr l)):∃ b o,v=.pointer (some ⟨b,o,none⟩)∧EAt G.σ b o l:=by
 cases h with | any h=>cases h with | cell h=>cases h with | pure h _=>cases h | eptr b o _ h=>exact ⟨b,o,rfl,h⟩
theorem Rd.agg_inv {v:Value} {l:List D} (h:Rd F G tk v (.agg l)):∃ cs,v=.agg cs∧cs.size=l.length∧∀ j,j < l.length→Rc F G tk (cs.getD j undef) (nth l j .dead):=by
 cases h with
 | any h=>cases h with
  | cell h=>cases h with | pure h _=>cases h
  | agg cs _ h1 h2=>exact ⟨cs,rfl,h1,h2⟩
theorem Rd.tup_inv {v:Value} {l:List D} (h:Rd F G tk v (.tup l)):∃ vs,v=.tuple vs∧vs.size=l.length∧∀ j,j < l.length→Rt F G tk (vs.getD j undef) (nth l j .dead):=by
 cases h with
 | any h=>cases h with
  | cell h=>cases h with | pure h _=>cases h
 | tup vs _ h1 h2=>exact ⟨vs,rfl,h1,h2⟩
theorem Rd.slice_inv {v:Value} {t:Tag} {z n:Nat} {g:Nat→List D} (h:Rd F G tk v (.slice t z n g)):Rp G.σ v (.slice t z n g)∧TagR G tk v (.slice t z n g):=by
 cases h with | any h=>cases h with | cell h=>cases h with | pure h h'=>exact ⟨h,h'⟩
theorem Rd.msl_inv {v:Value} {i z n:Nat} (h:Rd F G tk v (.msl i z n)):∃ a c,v=.slice a n c∧G.η i n=some (.slice a n c)∧n≤c∧(n≠0→∃ b,a=some ⟨b,0,none⟩):=by
 cases h with
 | any h=>cases h with | cell h=>cases h with | pure h _=>cases h
 | msl _ _ _ a c h1 h2 h3=>exact ⟨a,c,rfl,h1,h2,h3⟩
theorem Rd.rptr_inv {v:Value} {id z n i off:Nat} (h:Rd F G tk v (.rptr id z n i off)):∃ b c,v=.pointer (some ⟨b,i * z+off,none⟩)∧G.η id n=some (.slice (some ⟨b,0,none⟩) n c)∧i < n:=by
 cases h with
 | any h=>cases h with | cell h=>cases h with | pure h _=>cases h
 | rptr _ _ _ _ _ b c h1 h2=>exact ⟨b,c,rfl,h1,h2⟩
theorem Rd.cells {v:Value} {d:D} (h:Rd F G tk v d) (hs:aQ d.cells=true):v.cells.size=d.cells.length∧∀ j,j < d.cells.length→Rc F G tk (v.cells.getD j undef) (nth d.cells j .dead):=by
 cases h with
 | any h=>cases h with
  | cell h =>
   have hd:d≠.dead:=by intro e; subst e; simp [D.cells,aQ] at hs
   have h1:=h.oneCell hd (by intro va n ks vs e; subst e; simp [D.cells,aQ] at hs)
   have e1:v.cells=#[v]:=by cases v <;> first | rfl | simp [Value.oneCell'] at h1
   have e2:d.cells=[d]:=by cases h <;> first | rfl | (rename_i h3 _; cases h3 <;> rfl)
   rw [e1,e2]
   refine ⟨rfl,fun j hj=>?_⟩
   have:j=0:=by simpa using hj
   subst this
   exact h
  | agg cs l h1 h2=>exact ⟨h1,h2⟩
 | tup vs l h1 h2=>simp [D.cells,aQ] at hs
 | mref id=>simp [D.cells,aQ] at hs
 | msl id z n a c _ _ _=>simp [D.cells,aQ] at hs
 | rptr id z n i off b c _ _=>simp [D.cells,aQ] at hs
end
section
variable {P:Program} {F:Nat→FuncId} {B np:Nat} {w0 w w':World} {ext:List Nat} {σ0:Og} {G G':Gh} {hp:Nat→Option (Bool×List D)} {tk tk':Nat→Option (Nat×Nat)}
theorem aK {v0 v:D} {u:Upd} (h:(Out.val v0).holds v u):v=v0∧u=Upd.none:=by
 rcases h with h | ⟨p,_,h⟩ | h | ⟨_,_,h⟩ | ⟨_,_,h⟩ <;> cases h
 exact ⟨rfl,rfl⟩
theorem bH {v0 v:D} {u0 u:Upd} (h:(Out.ok v0 u0).holds v u):v=v0∧u=u0:=by
 rcases h with h | ⟨p,_,h⟩ | h | ⟨_,_,h⟩ | ⟨_,_,h⟩ <;> cases h
 exact ⟨rfl,rfl⟩
theorem bK {p:Prop} {v0 v:D} {u0 u:Upd} (h:(Out.ask p v0 u0).holds v u):p∧v=v0∧u=u0:=by
 rcases h with h | ⟨p,hp,h⟩ | h | ⟨_,_,h⟩ | ⟨_,_,h⟩ <;> cases h
 exact ⟨hp,rfl,rfl⟩
theorem aZ {b:Bool} {v0 v:D} {u0 u:Upd} (h:(Out.chk b v0 u0).holds v u):b=true∧v=v0∧u=u0:=by
 rcases h with h | ⟨p,hp,h⟩ | h | ⟨_,_,h⟩ | ⟨_,_,h⟩ <;> cases h
 exact ⟨rfl,rfl,rfl⟩
theorem cV {b:Bool} {v0 v v1:D} {u0 u u1:Upd} (h:(Out.alt b v0 u0 v1 u1).holds v u):(b=true∧v=v0∧u=u0)∨(b=false∧v=v1∧u=u1):=by
 rcases h with h | ⟨p,hp,h⟩ | h | ⟨_,_,h⟩ | ⟨_,_,h⟩ <;> cases h
 ·exact .inl ⟨rfl,rfl,rfl⟩
 ·exact .inr ⟨rfl,rfl,rfl⟩
theorem aH {v:D} {u:Upd} (h:Out.bad.holds v u):False:=by
 rcases h with h | ⟨p,hp,h⟩ | h | ⟨_,_,h⟩ | ⟨_,_,h⟩ <;> cases h
theorem mA {p:Prop} {o:Out} {v:D} {u:Upd} (h:(aJR p o).holds v u):p∧o.holds v u:=by
 cases o with
 | ok v0 u0 =>
  obtain ⟨h1,rfl,rfl⟩:=bK h
  exact ⟨h1,.inl rfl⟩
 | _=>exact (aH h).elim
theorem bQ {t:TypeId} {d:TypeDesc} (h:P.underlying t=some d) (w:World):(underlying t).run P w=.ok d w:=by
 simp [underlying,program,h,Sem.run]
theorem dV {t:TypeId} {n:Nat} (h:cT P t=some n) (w:World):(sizeOf t).run P w=.ok n w:=by
 simp only [cT,Option.map_eq_some_iff] at h
 obtain ⟨i,h1,h2⟩:=h
 simp [sizeOf,typeInfo,program,h1,h2,Sem.run]
theorem oA {t:TypeId} {g:Bool} (h:cB P t=some g) (w:World):(isAgg t).run P w=.ok g w:=by
 unfold cB at h
 split at h
 ·rename_i fs h1
  cases h
  simp [isAgg,bQ h1]
 ·rename_i n e h1
  cases h
  simp [isAgg,bQ h1]
 ·rename_i d h1 h2 h3
  cases h
  cases d <;> first | (simp [isAgg,bQ h3]; done) | (exact absurd rfl (h1 _)) | (exact absurd rfl (h2 _ _))
 ·cases h
theorem dT (b o n:Nat):(⟨b,o,none⟩:Addr).add n=⟨b,o+n,none⟩:=by
 unfold Addr.add
 split
 ·subst_vars; rfl
 ·rfl
theorem vR (m:Mem F B np w0 ext σ0 G hp tk w) {x:Value} {d:D} (hx:Rd F G tk x d) (id n:Nat) {st:TypeId} {fs:Array Field} {f:Nat} {fl:Field} {k:Nat}
  (hu:P.underlying st=some (.struct fs)) (hf:fs[f]? = some fl) (hk:cT P fl.type=some k) (hk0:k≠0) {v:D} {u:Upd}
  (hh:(bC (.fieldAddr fl.offset) id hp tk [d]).holds v u) :
  Does F B np w0 ext σ0 G hp tk (((Instr.fieldAt st x f).run P w).andThen fun v w=>.ok (.value v) w) id n v u:=by
 cases d with
 | ptr i o =>
  obtain ⟨rfl,rfl⟩:=aK hh
  have:=hx.ptr_inv
  subst this
  refine Does.val m (.any (.cell (.ptr i (o+fl.offset)))) ?_ id n
  simp [Instr.fieldAt,bQ hu,hf,Instr.sureAddr,fieldPlace,dV hk,hk0,dT]
 | eptr l =>
  obtain ⟨rfl,rfl⟩:=aK hh
  obtain ⟨b,o,rfl,h1⟩:=hx.eptr_inv
  refine Does.val m (.any (.cell (.eptr b (o+fl.offset) _ (h1.drop _)))) ?_ id n
  simp [Instr.fieldAt,bQ hu,hf,Instr.sureAddr,fieldPlace,dV hk,hk0,dT]
 | rptr j z n' i o =>
  obtain ⟨rfl,rfl⟩:=aK hh
  obtain ⟨b,c,rfl,h1,h2⟩:=hx.rptr_inv
  refine Does.val m (.rptr j z n' i (o+fl.offset) b c h1 h2) ?_ id n
  simp [Instr.fieldAt,bQ hu,hf,Instr.sureAddr,fieldPlace,dV hk,hk0,dT,Nat.add_assoc]
 | _=>exact (aH hh).elim
theorem fS {g:Bool} {n:Nat} {l:List D} {v:D} {u:Upd} (h:(cQ g n l).holds v u):n≤l.length∧v=mkv g (l.take n)∧u=Upd.none:=by
 unfold cQ at h
 cases hb:Nat.ble n l.length with
 | true =>
  rw [hb] at h
  obtain ⟨h1,h2⟩:=aK h
  exact ⟨Nat.le_of_ble_eq_true hb,h1,h2⟩
 | false=>rw [hb] at h; exact (aH h).elim
theorem aEL {t:TypeId} {g:Bool} {n:Nat} (hg:cB P t=some g) (hn:cT P t=some n) (hgn:(g || n==1)=true) {cs:Array Value} {l:List D} {off:Nat} (hlen:cs.size=l.length)
  (hr:∀ j,j < l.length→Rc F G tk (cs.getD j undef) (nth l j .dead)) (ho:n≤(l.drop off).length) (w:World) :
  ∃ v,(part t cs off).run P w=.ok v w∧Rd F G tk v (mkv g ((l.drop off).take n)):=by
 rw [List.length_drop] at ho
 cases g with
 | true =>
  refine ⟨.agg (cs.extract off (off+n)),by simp [part,oA hg,dV hn],?_⟩
  refine .any (.agg _ _ ?_ fun j hj=>?_)
  ·simp only [Array.size_extract,List.length_take,List.length_drop]; omega
  ·simp only [List.length_take,List.length_drop] at hj
   rw [lB _ _ _ (by omega),iP]
   have:(cs.extract off (off+n)).getD j undef=cs.getD (off+j) undef:=by
    simp only [Array.getD_eq_getD_getElem?,Array.getElem?_extract]
    rw [if_pos (by omega)]
   rw [this]
   exact hr _ (by omega)
 | false =>
  have h1:n=1:=by simpa using hgn
  subst h1
  have ho':off < cs.size:=by omega
  refine ⟨cs.getD off undef,?_,?_⟩
  ·simp [part,oA hg,ho',Array.getD_eq_getD_getElem?]
  ·have:mkv false ((l.drop off).take 1)=nth l off .dead:=by
    simp only [mkv,cond_false]
    rw [lB _ _ _ (by omega),iP]
    rfl
   rw [this]
   exact .any (.cell (hr off (by omega)))
theorem aDS (m:Mem F B np w0 ext σ0 G hp tk w) {x:Value} {d:D} (hx:Rd F G tk x d) (id n:Nat) {st:TypeId} {fs:Array Field} {f:Nat} {fl:Field} {k:Nat} {g:Bool}
  (hu:P.underlying st=some (.struct fs)) (hf:fs[f]? = some fl) (hg:cB P fl.type=some g) (hk:cT P fl.type=some k) (hgk:(g || k==1)=true) {v:D} {u:Upd}
  (hh:(bC (.field g fl.offset k) id hp tk [d]).holds v u) :
  Does F B np w0 ext σ0 G hp tk (((Instr.field st x f).run P w).andThen fun v w=>.ok (.value v) w) id n v u:=by
 cases d with
 | agg l =>
  obtain ⟨h1,rfl,rfl⟩:=fS hh
  obtain ⟨cs,rfl,h2,h3⟩:=hx.agg_inv
  obtain ⟨v',h4,h5⟩:=aEL (w:=w) hg hk hgk h2 h3 h1
  refine Does.val m h5 ?_ id n
  simp [Instr.field,bQ hu,hf,asAgg,h4]
 | _=>exact (aH hh).elim
theorem Rp.elem {σ:Sg} {x:Value} {n:Nat} {t:Tag} {z:Nat} {g:Nat→List D} (h:Rp σ x (.slice t z n g)):∃ a c,x=.slice a n c∧n≤c∧(∀ i,i < n→(g i).length=z) ∧
  ∀ i,i < n→∃ b o,a=some ⟨b,o,none⟩∧EAt σ b (o+i * z) (g i):=by
 cases h with
 | slice a _ c _ _ _ b o val h1 h2 h3 h4 h5 =>
  refine ⟨a,c,rfl,h1,h3,fun i hi=>⟨b,o,h2 (by omega),fun j hj=>?_⟩⟩
  have:=h3 i hi
  exact ⟨val i j,h4 i j hi (by omega),h5 i j hi (by omega)⟩
theorem iX {a b:Bool} (h:(a&&b)=true):a=true∧b=true:=by cases a <;> cases b <;> simp_all
theorem nV (m:Mem F B np w0 ext σ0 G hp tk w) {x y:Value} {d e:D} (hx:Rd F G tk x d) (hy:Rd F G tk y e) (id n:Nat) {t el:TypeId} {k:Nat}
  (hu:P.underlying t=some (.slice el)) (hk:cT P el=some k) {v:D} {u:Upd} (hh:(bC (.indexAddr k none) id hp tk [d,e]).holds v u) :
  Does F B np w0 ext σ0 G hp tk (((Instr.indexAt t x y).run P w).andThen fun v w=>.ok (.value v) w) id n v u:=by
 cases d with
 | slice tg z l g =>
  cases e with
  | int kd i =>
   simp only [bC] at hh
   cases hz:Nat.beq z k with
   | false=>rw [hz] at hh; exact (aH hh).elim
   | true =>
    rw [hz] at hh
    obtain ⟨h1,rfl,rfl⟩:=aZ hh
    obtain ⟨h2,h3⟩:=iX h1
    have hzk:=Nat.eq_of_beq_eq_true hz
    subst hzk
    simp only [decide_eq_true_eq] at h2 h3
    have:=hy.int_inv
    subst this
    obtain ⟨a,c,rfl,_,_,h4⟩:=hx.slice_inv.1.elem
    obtain ⟨b,o,rfl,h5⟩:=h4 i.toNat (by omega)
    refine Does.val m (.any (.cell (.eptr b (o+i.toNat * z) _ h5))) ?_ id n
    simp [Instr.indexAt,asIntOf,bQ hu,h2,h3,dV hk,dT]
  | _=>exact (aH hh).elim
 | msl j z l =>
  cases e with
  | int kd i =>
   simp only [bC] at hh
   cases hz:Nat.beq z k with
   | false=>rw [hz] at hh; exact (aH hh).elim
   | true =>
    rw [hz] at hh
    obtain ⟨h1,rfl,rfl⟩:=aZ hh
    obtain ⟨h2,h3⟩:=iX h1
    have hzk:=Nat.eq_of_beq_eq_true hz
    subst hzk
    simp only [decide_eq_true_eq] at h2 h3
    have:=hy.int_inv
    subst this
    obtain ⟨a,c,rfl,h4,_,h5⟩:=hx.msl_inv
    obtain ⟨b,rfl⟩:=h5 (by omega)
    refine Does.val m (.rptr j z l i.toNat 0 b c h4 (by omega)) ?_ id n
    simp [Instr.indexAt,asIntOf,bQ hu,h2,h3,dV hk,dT]
  | _=>exact (aH hh).elim
 | _=>cases e <;> exact (aH hh).elim
theorem pG (m:Mem F B np w0 ext σ0 G hp tk w) {x y:Value} {d e:D} (hx:Rd F G tk x d) (hy:Rd F G tk y e) (id n:Nat) {t el:TypeId} {k len:Nat}
  (hu:P.underlying t=some (.array len el)) (hk:cT P el=some k) {v:D} {u:Upd} (hh:(bC (.indexAddr k (some len)) id hp tk [d,e]).holds v u) :
  Does F B np w0 ext σ0 G hp tk (((Instr.indexAt t x y).run P w).andThen fun v w=>.ok (.value v) w) id n v u:=by
 cases d with
 | ptr j off =>
  cases e with
  | int kd i =>
   obtain ⟨h1,rfl,rfl⟩:=aZ hh
   obtain ⟨h2,h3⟩:=iX h1
   simp only [decide_eq_true_eq] at h2 h3
   have:=hy.int_inv
   subst this
   have:=hx.ptr_inv
   subst this
   refine Does.val m (.any (.cell (.ptr j (off+i.toNat * k)))) ?_ id n
   simp [Instr.indexAt,asIntOf,bQ hu,h2,h3,dV hk,dT,Instr.sureAddr]
  | _=>exact (aH hh).elim
 | eptr l =>
  cases e with
  | int kd i =>
   obtain ⟨h1,rfl,rfl⟩:=aZ hh
   obtain ⟨h2,h3⟩:=iX h1
   simp only [decide_eq_true_eq] at h2 h3
   have:=hy.int_inv
   subst this
   obtain ⟨b,o,rfl,h4⟩:=hx.eptr_inv
   refine Does.val m (.any (.cell (.eptr b (o+i.toNat * k) _ (h4.drop _)))) ?_ id n
   simp [Instr.indexAt,asIntOf,bQ hu,h2,h3,dV hk,dT,Instr.sureAddr]
  | _=>exact (aH hh).elim
 | _=>cases e <;> exact (aH hh).elim
theorem wH (m:Mem F B np w0 ext σ0 G hp tk w) {x y:Value} {d e:D} (hx:Rd F G tk x d) (hy:Rd F G tk y e) (id n:Nat) {t:TypeId}
  (hu:P.underlying t=some .string) {v:D} {u:Upd} (hh:(bC .indexStr id hp tk [d,e]).holds v u) :
  Does F B np w0 ext σ0 G hp tk (((Instr.index t x y).run P w).andThen fun v w=>.ok (.value v) w) id n v u:=by
 cases d with
 | str s =>
  cases e with
  | int kd i =>
   obtain ⟨h1,rfl,rfl⟩:=aZ hh
   obtain ⟨h2,h3⟩:=iX h1
   simp only [decide_eq_true_eq] at h2 h3
   have:=hy.int_inv
   subst this
   have:=hx.str_inv
   subst this
   refine Does.val m (.any (.cell (.pure (.int _ _) trivial))) ?_ id n
   have hlt:i.toNat < s.size:=by omega
   have e1:s[i.toNat]? = some s[i.toNat]:=by simp [hlt]
   have e2:nth s.data.toList i.toNat 0=s[i.toNat]:=by
    rw [dS s.data.toList 0 (j:=i.toNat) (by simpa using hlt)]
    rfl
   simp [Instr.index,asIntOf,bQ hu,h2,e1,e2]
  | _=>exact (aH hh).elim
 | _=>cases e <;> exact (aH hh).elim
theorem wP (m:Mem F B np w0 ext σ0 G hp tk w) {x y:Value} {d e:D} (hx:Rd F G tk x d) (hy:Rd F G tk y e) (id n:Nat) {t el:TypeId} {k len:Nat} {g:Bool}
  (hu:P.underlying t=some (.array len el)) (hg:cB P el=some g) (hk:cT P el=some k) (hgk:(g || k==1)=true) {v:D} {u:Upd} (hh:(bC (.indexArr g k len) id hp tk [d,e]).holds v u) :
  Does F B np w0 ext σ0 G hp tk (((Instr.index t x y).run P w).andThen fun v w=>.ok (.value v) w) id n v u:=by
 cases d with
 | agg l =>
  cases e with
  | int kd i =>
   simp only [bC] at hh
   have hl:∀ o,cQ g k (l.drop (i.toNat * k))=o→(∃ v0,o=.ok v0 Upd.none∧k≤(l.drop (i.toNat * k)).length∧v0=mkv g ((l.drop (i.toNat * k)).take k))∨o=.bad:=by
    intro o ho
    unfold cQ at ho
    cases hb:Nat.ble k (l.drop (i.toNat * k)).length with
    | true=>rw [hb] at ho; exact .inl ⟨_,ho.symm,Nat.le_of_ble_eq_true hb,rfl⟩
    | false=>rw [hb] at ho; exact .inr ho.symm
   rcases hl _ rfl with ⟨v0,h0,h01,rfl⟩ | h0
   ·rw [h0] at hh
    obtain ⟨h1,rfl,rfl⟩:=aZ hh
    obtain ⟨h2,h3⟩:=iX h1
    simp only [decide_eq_true_eq] at h2 h3
    have:=hy.int_inv
    subst this
    obtain ⟨cs,rfl,h4,h5⟩:=hx.agg_inv
    obtain ⟨v',h6,h7⟩:=aEL (w:=w) hg hk hgk h4 h5 h01
    refine Does.val m h7 ?_ id n
    simp [Instr.index,asIntOf,bQ hu,h2,h3,dV hk,h6]
   ·rw [h0] at hh
    exact (aH hh).elim
  | _=>exact (aH hh).elim
 | _=>cases e <;> exact (aH hh).elim
theorem aCP (m:Mem F B np w0 ext σ0 G hp tk w) {x:Value} {d:D} (hx:Rd F G tk x d) (id n:Nat) {t ty:TypeId} {v:D} {u:Upd}
  {str:Bool} (hh:(bC (.len str) id hp tk [d]).holds v u) (hfit:if str then P.underlying t=some .string else ∃ e,P.underlying t=some (.slice e)) :
  Does F B np w0 ext σ0 G hp tk (((Builtin.len_ #[t] ty #[x]).run P w).andThen fun v w=>.ok (.value v) w) id n v u:=by
 cases d with
 | slice tg z l g =>
  cases str with
  | true=>exact (aH hh).elim
  | false =>
  obtain ⟨rfl,rfl⟩:=aK hh
  obtain ⟨a,c,rfl,_⟩:=hx.slice_inv.1.elem
  obtain ⟨e,he⟩:=hfit
  refine Does.val m (.any (.cell (.pure (.int _ _) trivial))) ?_ id n
  simp [Builtin.len_,bQ he,goInt]
 | msl j z l =>
  cases str with
  | true=>exact (aH hh).elim
  | false =>
  obtain ⟨rfl,rfl⟩:=aK hh
  obtain ⟨a,c,rfl,_⟩:=hx.msl_inv
  obtain ⟨e,he⟩:=hfit
  refine Does.val m (.any (.cell (.pure (.int _ _) trivial))) ?_ id n
  simp [Builtin.len_,bQ he,goInt]
 | str s =>
  cases str with
  | false=>exact (aH hh).elim
  | true =>
  obtain ⟨rfl,rfl⟩:=aK hh
  have:=hx.str_inv
  subst this
  have hfit:P.underlying t=some .string:=hfit
  refine Does.val m (.any (.cell (.pure (.int _ _) trivial))) ?_ id n
  simp [Builtin.len_,bQ hfit,goInt]
 | _=>cases str <;> exact (aH hh).elim
theorem Rt.ra {v:Value} {d:D} (h:Rt F G tk v d):Ra F G tk v d:=by
 cases h with
 | cell h=>exact .cell h
 | agg cs l h1 h2 =>
  refine .agg cs l h1 fun j hj=>?_
  obtain ⟨h3,h4⟩:=h2 j hj
  refine .pure h3 ?_
  rw [h4]
  exact cS _ _
theorem aAD (m:Mem F B np w0 ext σ0 G hp tk w) {x:Value} {d:D} (hx:Rd F G tk x d) (id n i:Nat) {v:D} {u:Upd} (hh:(bC (.extract i) id hp tk [d]).holds v u) :
  Does F B np w0 ext σ0 G hp tk (((Instr.extract x i).run P w).andThen fun v w=>.ok (.value v) w) id n v u:=by
 cases d with
 | tup l =>
  simp only [bC] at hh
  cases hb:Nat.blt i l.length with
  | false=>rw [hb] at hh; exact (aH hh).elim
  | true =>
   rw [hb] at hh
   obtain ⟨rfl,rfl⟩:=aK hh
   have hi:i < l.length:=by rw [Nat.blt_eq] at hb; exact hb
   obtain ⟨vs,rfl,h1,h2⟩:=hx.tup_inv
   refine Does.val m (.any (h2 i hi).ra) ?_ id n
   have:i < vs.size:=by omega
   simp [Instr.extract,this,Array.getD_eq_getD_getElem?]
 | _=>exact (aH hh).elim
theorem rZ {k k':IntKind} (h:kJ k k'=true):k=k':=by cases k <;> cases k' <;> first | rfl | cases h
theorem aIW (m:Mem F B np w0 ext σ0 G hp tk w) {x:Value} {d:D} (hx:Rd F G tk x d) (id n:Nat) (op:UnOp) {v:D} {u:Upd} (hh:(bC (.un op) id hp tk [d]).holds v u) :
  Does F B np w0 ext σ0 G hp tk (((Op.unary op x).run P w).andThen fun v w=>.ok (.value v) w) id n v u:=by
 simp only [bC,un] at hh
 split at hh
 ·obtain ⟨rfl,rfl⟩:=aK hh
  have:=hx.bool_inv
  subst this
  exact Does.val m (.any (.cell (.pure (.bool _) trivial))) (by simp [Op.unary]) id n
 ·obtain ⟨rfl,rfl⟩:=aK hh
  have:=hx.int_inv
  subst this
  exact Does.val m (.any (.cell (.pure (.int _ _) trivial))) (by simp [Op.unary,Op.intArith]) id n
 ·exact (aH hh).elim
theorem rT {t:TypeId} (hu:P.underlying t=some .bool) (d:Nat) (a b:Bool) (w:World):(Op.equalIn (d+1) t (.bool a) (.bool b)).run P w=.ok (a==b) w:=by
 simp [Op.equalIn,bQ hu]
theorem tS {t:TypeId} (hu:P.underlying t=some .bool) (a b:Bool) (w:World):(Op.equal t (.bool a) (.bool b)).run P w=.ok (a==b) w:=rT hu 9999 a b w
theorem aB7 (m:Mem F B np w0 ext σ0 G hp tk w) {x y:Value} {d e:D} (hx:Rd F G tk x d) (hy:Rd F G tk y e) (id n:Nat) (op:BinOp) {t:TypeId} {ox oy:Operand} {v:D} {u:Upd} (hh:(bC (.bin op) id hp tk [d,e]).holds v u) :
  Does F B np w0 ext σ0 G hp tk (((do eqGuard op t ox oy x y; binOp op t x y:Sem Value).run P w).andThen fun v w=>.ok (.value v) w) id n v u:=by
 simp only [bC,bin] at hh
 split at hh
 ·rename_i k a k' b
  have:=hx.int_inv; subst this
  have:=hy.int_inv; subst this
  cases hs:oQ op with
  | true =>
   rw [hs] at hh
   simp only [cond_true] at hh
   cases op <;> simp only [oQ,Bool.false_eq_true] at hs
   ·obtain ⟨h1,rfl,rfl⟩:=aZ hh
    simp only [decide_eq_true_eq] at h1
    refine Does.val m (.any (.cell (.pure (.int _ _) trivial))) ?_ id n
    have:¬b < 0:=by omega
    simp [eqGuard,binOp,Op.shift,this]
   ·obtain ⟨h1,rfl,rfl⟩:=aZ hh
    simp only [decide_eq_true_eq] at h1
    refine Does.val m (.any (.cell (.pure (.int _ _) trivial))) ?_ id n
    have:¬b < 0:=by omega
    simp [eqGuard,binOp,Op.shift,this]
  | false =>
   rw [hs] at hh
   simp only [cond_false] at hh
   cases hk:kJ k k' with
   | false=>rw [hk] at hh; exact (aH hh).elim
   | true =>
    rw [hk] at hh
    have:=rZ hk
    subst this
    simp only [cond_true] at hh
    cases op <;> simp only [oQ,Bool.true_eq_false] at hs <;> simp only [yI] at hh
    case quo =>
     obtain ⟨h1,rfl,rfl⟩:=aZ hh
     have h2:b≠0:=by intro h; subst h; simp at h1
     exact Does.val m (.any (.cell (.pure (.int _ _) trivial))) (by simp [eqGuard,binOp,Op.intDiv,h2]) id n
    case rem =>
     obtain ⟨h1,rfl,rfl⟩:=aZ hh
     have h2:b≠0:=by intro h; subst h; simp at h1
     exact Does.val m (.any (.cell (.pure (.int _ _) trivial))) (by simp [eqGuard,binOp,Op.intDiv,h2]) id n
    case andNot=>exact (aH hh).elim
    all_goals
     obtain ⟨rfl,rfl⟩:=aK hh
     first
      | exact Does.val m (.any (.cell (.pure (.int _ _) trivial))) (by simp [eqGuard,binOp,Op.intArith,Op.intBits]) id n
      | exact Does.val m (.any (.cell (.pure (.bool _) trivial))) (by simp [eqGuard,binOp,Op.intCmp]) id n
 ·rename_i a b
  have:=hx.str_inv; subst this
  have:=hy.str_inv; subst this
  cases op <;> simp only [aAC] at hh
  case add =>
   obtain ⟨h1,rfl,rfl⟩:=aZ hh
   have h2:=Nat.le_of_ble_eq_true h1
   exact Does.val m (.any (.cell (.pure (.str _) trivial))) (by simp [eqGuard,binOp,Op.stringOp]; omega) id n
  all_goals first
   | exact (aH hh).elim
   | (obtain ⟨rfl,rfl⟩ := aK hh
      exact Does.val m (.any (.cell (.pure (.bool _) trivial))) (by simp [eqGuard,binOp,Op.stringOp]) id n)
 ·exact (aH hh).elim
theorem xR (m:Mem F B np w0 ext σ0 G hp tk w) {x y:Value} {d e:D} (hx:Rd F G tk x d) (hy:Rd F G tk y e) (id n:Nat) (neg:Bool) {t:TypeId} (hu:P.underlying t=some .bool) {ox oy:Operand} {v:D} {u:Upd} (hh:(bC (.binB neg) id hp tk [d,e]).holds v u) :
  Does F B np w0 ext σ0 G hp tk (((do eqGuard (if neg then .neq else .eql) t ox oy x y; binOp (if neg then .neq else .eql) t x y:Sem Value).run P w).andThen fun v w=>.ok (.value v) w) id n v u:=by
 cases d with
 | bool a =>
  cases e with
  | bool b =>
   have:=hx.bool_inv; subst this
   have:=hy.bool_inv; subst this
   cases neg <;> (obtain ⟨rfl,rfl⟩:=aK hh; exact Does.val m (.any (.cell (.pure (.bool _) trivial))) (by simp [eqGuard,binOp,tS hu]) id n)
  | _=>exact (aH hh).elim
 | _=>exact (aH hh).elim
end
section
variable {P:Program} {F:Nat→FuncId} {B np:Nat} {w0 w w':World} {ext:List Nat} {σ0:Og} {G G':Gh} {hp:Nat→Option (Bool×List D)} {tk tk':Nat→Option (Nat×Nat)}
theorem tI {t:TypeId} {g:Bool} {n:Nat} (hg:cB P t=some g) (hn:cT P t=some n) (hgn:(g || n==1)=true) {l:List D} (ho:n≤l.length) {b o:Nat} (f:Nat→Value)
  (hf:∀ j,j < n→w.cell? ⟨b,o+j,none⟩=some (f j)) (hr:∀ j,j < n→Rc F G tk (f j) (nth l j .dead)) :
  ∃ v,(loadVar t ⟨b,o,none⟩).run P w=.ok v w∧Rd F G tk v (mkv g (l.take n)):=by
 cases g with
 | true =>
  have h1:=run_loadCells (P:=P) w ⟨b,o,none⟩ n f (fun j hj=>by rw [dT]; exact hf j hj)
  refine ⟨.agg ((List.range n).map f).toArray,by simp [loadVar,oA hg,dV hn,h1],?_⟩
  refine .any (.agg _ _ (by simp; omega) fun j hj=>?_)
  simp only [List.length_take] at hj
  rw [lB _ _ _ (by omega)]
  have:(((List.range n).map f).toArray).getD j undef=f j:=by
   have:j < n:=by omega
   simp [Array.getD_eq_getD_getElem?,this]
  rw [this]
  exact hr j (by omega)
 | false =>
  have h1:n=1:=by simpa using hgn
  subst h1
  have h2:=hf 0 (by omega)
  simp only [Nat.add_zero] at h2
  refine ⟨f 0,by simp [loadVar,oA hg,h2],?_⟩
  have:mkv false (l.take 1)=nth l 0 .dead:=by
   simp only [mkv,cond_false]
   exact lB _ _ _ (by omega)
  rw [this]
  exact .any (.cell (hr 0 (by omega)))
theorem Mem.var_cell (m:Mem F B np w0 ext σ0 G hp tk w) {id:Nat} {f:Bool} {cs:List D} (h:hp id=some (f,cs)) (hs:(f || aQ cs)=true):∃ val:Nat→Value,∀ j,j < cs.length→w.cell? ⟨G.β id,j,none⟩=some (val j)∧Rc F G tk (val j) (nth cs j .dead):=by
 cases f with
 | false =>
  obtain ⟨o,h1,hh,_⟩:=m.vars id cs h (cK (by simpa using hs))
  obtain ⟨c,e,rfl,h2,h3⟩:=hh.cells (by simpa using hs)
  refine ⟨fun j=>c.getD j undef,fun j hj=>⟨?_,h3 j hj⟩⟩
  rw [cell_of_row w _ j c e _ h1]
  have:j < c.size:=by omega
  simp [this]
 | true =>
  have h1:=m.froz id cs h
  refine ⟨fun j=>(G.σ (G.β id) j).getD undef,fun j hj=>?_⟩
  obtain ⟨v,h2,h3,h4⟩:=h1 j hj
  simp only [h2,Option.getD_some]
  refine ⟨m.cell h2,.pure h3 ?_⟩
  rw [h4]
  exact cS _ _
theorem aE7 (m:Mem F B np w0 ext σ0 G hp tk w) {x:Value} {d:D} (hx:Rd F G tk x d) (id n:Nat) {t:TypeId} {k:Nat} {g:Bool} (hg:cB P t=some g) (hk:cT P t=some k) (hgk:(g || k==1)=true)
  {v:D} {u:Upd} (hh:(bC (.load g k) id hp tk [d]).holds v u) :
  Does F B np w0 ext σ0 G hp tk (((Instr.loadAt t x).run P w).andThen fun v w=>.ok (.value v) w) id n v u:=by
 cases d with
 | ptr i o =>
  simp only [bC] at hh
  cases hi:hp i with
  | none=>rw [hi] at hh; exact (aH hh).elim
  | some e =>
   obtain ⟨f,cs⟩:=e
   rw [hi] at hh
   simp only at hh
   cases hfs:(f || aQ cs) with
   | false=>rw [hfs] at hh; exact (aH hh).elim
   | true =>
   rw [hfs] at hh
   obtain ⟨h1,rfl,rfl⟩:=fS hh
   obtain ⟨val,h2⟩:=m.var_cell hi hfs
   rw [List.length_drop] at h1
   have hx':=hx.ptr_inv
   subst hx'
   obtain ⟨v',h3,h4⟩:=tI (F:=F) (G:=G) (tk:=tk) (w:=w) hg hk hgk (l:=cs.drop o) (by rw [List.length_drop]; exact h1) (b:=G.β i) (o:=o) (fun j=>val (o+j)) (fun j hj=>(h2 (o+j) (by omega)).1)
    (fun j hj=>by rw [iP]; exact (h2 (o+j) (by omega)).2)
   exact Does.val m h4 (by simp [Instr.loadAt,Instr.sureAddr,h3]) id n
 | eptr l =>
  obtain ⟨h1,rfl,rfl⟩:=fS hh
  rw [aU] at h1
  obtain ⟨b,o,rfl,h2⟩:=hx.eptr_inv
  obtain ⟨v',h3,h4⟩:=tI (F:=F) (G:=G) (tk:=tk) (w:=w) hg hk hgk (l:=aV l) (by rw [aU]; exact h1) (b:=b) (o:=o) (fun j=>(G.σ b (o+j)).getD undef)
   (fun j hj=>by obtain ⟨v,h3,_⟩:=h2 j (by omega); rw [h3]; exact m.cell h3)
   (fun j hj=>by
    obtain ⟨v,h3,h4⟩:=h2 j (by omega)
    rw [h3,bF]
    exact .pure h4 (cS _ _))
  exact Does.val m h4 (by simp [Instr.loadAt,Instr.sureAddr,h3]) id n
 | rptr i z n' q o =>
  simp only [bC] at hh
  unfold p0 at hh
  split at hh
  ·rename_i fw z' n2 g2 hi
   cases hz:Nat.beq z' z with
   | false=>rw [hz] at hh; exact (aH hh).elim
   | true =>
   rw [hz] at hh
   have:=Nat.eq_of_beq_eq_true hz
   subst this
   obtain ⟨hnn,hh2⟩:=mA hh
   subst hnn
   obtain ⟨h1,rfl,rfl⟩:=fS hh2
   obtain ⟨b,c,rfl,h2,h3⟩:=hx.rptr_inv
   obtain ⟨a,c',h4,h5⟩:=m.rows i fw z' n2 g2 hi
   rw [h4.at_] at h2
   cases h2
   have hle:=h4.le
   obtain ⟨_,ob,h6,cur,et,rfl,h7,h8⟩:=h5 b rfl (by omega)
   obtain ⟨h9,h10⟩:=h8 q h3
   rw [List.length_drop,aU,h9] at h1
   have hlt:∀ j,j < z'→q * z'+j < cur.size:=fun j hj=>by
    have:(q+1) * z'≤c * z':=Nat.mul_le_mul_right _ (by omega)
    rw [Nat.add_mul] at this
    omega
   obtain ⟨v',h11,h12⟩:=tI (F:=F) (G:=G) (tk:=tk) (w:=w) hg hk hgk (l:=(aV (g2 q)).drop o) (by rw [List.length_drop,aU,h9]; exact h1) (b:=b) (o:=q * z'+o) (fun j=>cur.getD (q * z'+(o+j)) undef)
    (fun j hj=>by
     rw [cell_of_row w _ _ cur et _ h6,Nat.add_assoc]
     have:=hlt (o+j) (by omega)
     simp [this])
    (fun j hj=>by
     rw [iP,bF]
     exact .pure (h10 (o+j) (by omega)).2 (cS _ _))
   exact Does.val m h12 (by simp [Instr.loadAt,Instr.sureAddr,h11]) id n
  ·exact (aH hh).elim
 | _=>exact (aH hh).elim
theorem aF4 (m:Mem F B np w0 ext σ0 G hp tk w) {x:Value} {d:D} (hx:Rd F G tk x d) (id n:Nat) {v:D} {u:Upd} (hh:(bC .move id hp tk [d]).holds v u) :
  Does F B np w0 ext σ0 G hp tk (.ok (.value x) w) id n v u:=by
 obtain ⟨rfl,rfl⟩:=aK hh
 exact Does.val m hx rfl id n
theorem aF8 (m:Mem F B np w0 ext σ0 G hp tk w) {x y z:Value} {d e f:D} (hx:Rd F G tk x d) (hy:Rd F G tk y e) (hz:Rd F G tk z f) (id n:Nat) {v:D} {u:Upd} (hh:(bC .pick id hp tk [d,e,f]).holds v u) :
  Does F B np w0 ext σ0 G hp tk (((asBool x).run P w).andThen fun b w=>.ok (.value (if b then y else z)) w) id n v u:=by
 cases d with
 | bool b =>
  obtain ⟨rfl,rfl⟩:=aK hh
  have:=hx.bool_inv
  subst this
  cases b with
  | true=>exact Does.val m hy (by simp [asBool]) id n
  | false=>exact Does.val m hz (by simp [asBool]) id n
 | _=>exact (aH hh).elim
theorem wW (m:Mem F B np w0 ext σ0 G hp tk w) {x:Value} {d:D} (hx:Rd F G tk x d) (id n:Nat) {v:D} {u:Upd} (hh:(bC .nilCheck id hp tk [d]).holds v u) :
  ∃ b o,x=.pointer (some ⟨b,o,none⟩)∧Does F B np w0 ext σ0 G hp tk (.ok (.value x) w) id n v u:=by
 cases d with
 | ptr i o =>
  obtain ⟨rfl,rfl⟩:=aK hh
  exact ⟨_,_,hx.ptr_inv,Does.val m hx rfl id n⟩
 | eptr l =>
  obtain ⟨rfl,rfl⟩:=aK hh
  obtain ⟨b,o,h1,_⟩:=hx.eptr_inv
  exact ⟨b,o,h1,Does.val m hx rfl id n⟩
 | rptr j z n' i o =>
  obtain ⟨rfl,rfl⟩:=aK hh
  obtain ⟨b,c,h1,_⟩:=hx.rptr_inv
  exact ⟨b,_,h1,Does.val m hx rfl id n⟩
 | _=>exact (aH hh).elim
theorem xI (m:Mem F B np w0 ext σ0 G hp tk w) {x y:Value} {d e:D} (hx:Rd F G tk x d) (hy:Rd F G tk y e) (id n:Nat) (isMax:Bool) {at_:Array TypeId} {ty:TypeId} {v:D} {u:Upd} (hh:(bC (.mnmx isMax) id hp tk [d,e]).holds v u) :
  Does F B np w0 ext σ0 G hp tk ((((if isMax then Builtin.max_ at_ ty #[x,y] else Builtin.min_ at_ ty #[x,y]):Sem Value).run P w).andThen fun v w=>.ok (.value v) w) id n v u:=by
 cases d with
 | int k a =>
  cases e with
  | int k' b =>
   obtain ⟨rfl,rfl⟩:=aK hh
   have:=hx.int_inv; subst this
   have:=hy.int_inv; subst this
   refine Does.val m (.any (.cell (.pure (.int _ _) trivial))) ?_ id n
   cases isMax
   ·by_cases h:b < a <;> simp [Builtin.min_,Builtin.min2,h]
   ·by_cases h:a < b <;> simp [Builtin.max_,Builtin.max2,h]
  | _=>exact (aH hh).elim
 | _=>cases e <;> exact (aH hh).elim
theorem zP (m:Mem F B np w0 ext σ0 G hp tk w) {x:Value} {d:D} (hx:Rd F G tk x d) (id n:Nat) {src dst:TypeId} {k k':IntKind} (hs:P.underlying src=some (.int k')) (hd:P.underlying dst=some (.int k)) {v:D} {u:Upd}
  (hh:(bC (.conv (.int k)) id hp tk [d]).holds v u):Does F B np w0 ext σ0 G hp tk (((convert src dst x).run P w).andThen fun v w=>.ok (.value v) w) id n v u:=by
 cases d with
 | int k0 a =>
  obtain ⟨rfl,rfl⟩:=aK hh
  have:=hx.int_inv; subst this
  exact Does.val m (.any (.cell (.pure (.int _ _) trivial))) (by simp [convert,bQ hs,bQ hd,Conv.intToInt]) id n
 | _=>exact (aH hh).elim
theorem y6 (m:Mem F B np w0 ext σ0 G hp tk w) {x:Value} {d:D} (hx:Rd F G tk x d) (id n:Nat) {src dst:TypeId} (hs:P.underlying src=some .string) (hd:P.underlying dst=some .string) {v:D} {u:Upd}
  (hh:(bC (.conv .same) id hp tk [d]).holds v u):Does F B np w0 ext σ0 G hp tk (((convert src dst x).run P w).andThen fun v w=>.ok (.value v) w) id n v u:=by
 obtain ⟨s,rfl⟩:∃ s,d=.str s:=by cases d <;> first | exact ⟨_,rfl⟩ | exact (aH hh).elim
 obtain ⟨rfl,rfl⟩:=aK hh
 have:=hx.str_inv; subst this
 exact Does.val m (.any (.cell (.pure (.str _) trivial))) (by simp [convert,bQ hs,bQ hd]) id n
theorem wJ (m:Mem F B np w0 ext σ0 G hp tk w) {x:Value} {d:D} (hx:Rd F G tk x d) (id n:Nat) {src dst:TypeId} {k:IntKind} (hs:P.underlying src=some (.int k)) (hd:P.underlying dst=some .string) {v:D} {u:Upd}
  (hh:(bC (.conv .r2s) id hp tk [d]).holds v u):Does F B np w0 ext σ0 G hp tk (((convert src dst x).run P w).andThen fun v w=>.ok (.value v) w) id n v u:=by
 obtain ⟨k,r,rfl⟩:∃ k r,d=.int k r:=by cases d <;> first | exact ⟨_,_,rfl⟩ | exact (aH hh).elim
 obtain ⟨rfl,rfl⟩:=aK hh
 have:=hx.int_inv; subst this
 exact Does.val m (.any (.cell (.pure (.str _) trivial))) (by simp [convert,bQ hs,bQ hd,Conv.intToString]) id n
theorem q7 {t e:TypeId} (hu:P.underlying t=some (.slice e)) (d:Nat) (a:Option Addr) (n c:Nat) (w:World):(Op.equalIn (d+1) t (.slice a n c) (.slice none 0 0)).run P w=.ok a.isNone w:=by
 cases a <;> simp [Op.equalIn,bQ hu]
theorem mI {t e:TypeId} (hu:P.underlying t=some (.slice e)) (a:Option Addr) (n c:Nat) (w:World):(Op.equal t (.slice a n c) (.slice none 0 0)).run P w=.ok a.isNone w:=q7 hu 9999 a n c w
theorem tF {t e:TypeId} (hu:P.underlying t=some (.pointer e)) (d:Nat) (a:Option Addr) (w:World):(Op.equalIn (d+1) t (.pointer a) (.pointer none)).run P w=.ok a.isNone w:=by
 cases a <;> simp [Op.equalIn,bQ hu]
theorem wT {t e:TypeId} (hu:P.underlying t=some (.pointer e)) (a:Option Addr) (w:World):(Op.equal t (.pointer a) (.pointer none)).run P w=.ok a.isNone w:=tF hu 9999 a w
theorem aB8 (m:Mem F B np w0 ext σ0 G hp tk w) {x:Value} {d:D} (hx:Rd F G tk x d) (id n:Nat) (neg:Bool) {t e:TypeId} (hu:P.underlying t=some (.slice e)) {ox oy:Operand} {v:D} {u:Upd} (hh:(bC (.isNil false neg) id hp tk [d]).holds v u) :
  Does F B np w0 ext σ0 G hp tk (((do eqGuard (if neg then .neq else .eql) t ox oy x (.slice none 0 0); binOp (if neg then .neq else .eql) t x (.slice none 0 0):Sem Value).run P w).andThen fun v w=>.ok (.value v) w) id n v u:=by
 cases d with
 | slice tg z l g =>
  obtain ⟨a,c,rfl⟩:∃ a c,x=.slice a l c:=by
   cases hx with | any h=>cases h with | cell h=>cases h with | pure h _=>cases h; exact ⟨_,_,rfl⟩
  have hn:l≠0→a.isNone=false:=by
   intro hl
   cases hx with | any h=>cases h with | cell h=>cases h with | pure h _=>cases h with | slice _ _ _ _ _ _ b o val h1 h2 h3 h4 h5=>rw [h2 hl]; rfl
  rcases cV hh with ⟨_,rfl,rfl⟩ | ⟨hb,rfl,rfl⟩
  ·exact Does.val m (v:=.bool (if neg then !a.isNone else a.isNone)) (.any (.cell (.pure (.ubool _) trivial))) (by cases neg <;> simp [eqGuard,binOp,mI hu]) id n
  ·have:a.isNone=false:=hn (fun h=>by subst h; cases hb)
   cases neg <;> exact Does.val m (.any (.cell (.pure (.bool _) trivial))) (by simp [eqGuard,binOp,mI hu,this]) id n
 | _=>exact (aH hh).elim
theorem aAW (m:Mem F B np w0 ext σ0 G hp tk w) {x:Value} {d:D} (hx:Rd F G tk x d) (id n:Nat) (neg:Bool) {t e:TypeId} (hu:P.underlying t=some (.pointer e)) {ox oy:Operand} {v:D} {u:Upd} (hh:(bC (.isNil true neg) id hp tk [d]).holds v u) :
  Does F B np w0 ext σ0 G hp tk (((do eqGuard (if neg then .neq else .eql) t ox oy x (.pointer none); binOp (if neg then .neq else .eql) t x (.pointer none):Sem Value).run P w).andThen fun v w=>.ok (.value v) w) id n v u:=by
 have key:∀ a:Option Addr,x=.pointer a→v=.bool (if neg then !a.isNone else a.isNone)→u=Upd.none→Does F B np w0 ext σ0 G hp tk (((do eqGuard (if neg then .neq else .eql) t ox oy x (.pointer none); binOp (if neg then .neq else .eql) t x (.pointer none):Sem Value).run P w).andThen fun v w=>.ok (.value v) w) id n v u:=by
  rintro a rfl rfl rfl
  exact Does.val m (.any (.cell (.pure (.bool _) trivial))) (by cases neg <;> simp [eqGuard,binOp,wT hu]) id n
 cases d with
 | nilp =>
  obtain ⟨rfl,rfl⟩:=aK hh
  refine key none ?_ (by cases neg <;> rfl) rfl
  cases hx with | any h=>cases h with | cell h=>cases h with | pure h _=>cases h; rfl
 | ptr i o =>
  obtain ⟨rfl,rfl⟩:=aK hh
  exact key _ hx.ptr_inv (by cases neg <;> rfl) rfl
 | eptr l =>
  obtain ⟨rfl,rfl⟩:=aK hh
  have hx':∃ a,x=.pointer (some a):=by
   cases hx with | any h=>cases h with | cell h=>cases h with
    | pure h _=>cases h
    | eptr b o _ _=>exact ⟨_,rfl⟩
  obtain ⟨a,rfl⟩:=hx'
  exact key _ rfl (by cases neg <;> rfl) rfl
 | _=>exact (aH hh).elim
theorem aFB {has:Bool} {l r:List D} {dflt n:Int} (h:wU has l dflt=some (n,r)):(has=false∧n=dflt∧r=l)∨(has=true∧∃ k,l=.int k n::r):=by
 cases has with
 | false=>simp only [wU,cond_false,Option.some.injEq,Prod.mk.injEq] at h; exact .inl ⟨rfl,h.1.symm,h.2.symm⟩
 | true =>
  simp only [wU,cond_true] at h
  split at h
  ·rename_i k n' r'
   simp only [Option.some.injEq,Prod.mk.injEq] at h
   obtain ⟨rfl,rfl⟩:=h
   exact .inr ⟨rfl,k,rfl⟩
  ·cases h
theorem eR (k:IntKind) (i:Int) (y:Nat) (code:BoundsCode) (h:0≤i∧i≤y):(Instr.sliceBound (.int k i) y code).run P w=.ok i.toNat w:=by
 simp [Instr.sliceBound,asIntOf,h.1,h.2]
theorem Rp.sub {σ:Sg} {x:Value} {n:Nat} {t:Tag} {z:Nat} {g:Nat→List D} (h:Rp σ x (.slice t z n g)) {a:Option Addr} {c:Nat} (hx:x=.slice a n c) (t':Tag) (l k c':Nat) (hl:l+k≤n) (hc:k≤c') (a':Option Addr) (ha:0 < k→a'=a.map (·.add (l * z))) :
  Rp σ (.slice a' k c') (.slice t' z k (aAF g l)):=by
 subst hx
 cases h with
 | slice _ _ _ _ _ _ b o val h1 h2 h3 h4 h5 =>
  refine .slice a' k c' t' z (aAF g l) b (o+l * z) (fun i j=>val (i+l) j) hc (fun hk=>?_) (fun i hi=>h3 _ (by omega)) (fun i j hi hj=>?_) (fun i j hi hj=>h5 _ _ (by omega) hj)
  ·rw [ha (by omega),h2 (by omega)]
   simp [dT]
  ·have:=h4 (i+l) j (by omega) hj
   rw [Nat.add_mul] at this
   rw [show o+l * z+i * z+j=o+(i * z+l * z)+j from by omega]
   exact this
end
section
variable {P:Program} {F:Nat→FuncId} {B np:Nat} {w0 w w':World} {ext:List Nat} {σ0:Og} {G G':Gh} {hp:Nat→Option (Bool×List D)} {tk tk':Nat→Option (Nat×Nat)}
inductive Op1 (F:Nat→FuncId) (G:Gh) (tk:Nat→Option (Nat×Nat)):Option Value→Bool→List D→List D→Prop
 | absent (l:List D):Op1 F G tk Option.none false l l
 | here {v:Value} {d:D} (l:List D):Rd F G tk v d→Op1 F G tk (Option.some v) true (d::l) l
theorem Op1.int {ov:Option Value} {has:Bool} {l r r':List D} {dflt n:Int} (h:Op1 F G tk ov has l r) (ho:wU has l dflt=some (n,r')):r'=r∧((ov=Option.none∧has=false∧n=dflt)∨(has=true∧∃ k,ov=Option.some (.int k n))):=by
 cases h with
 | absent l =>
  simp only [wU,cond_false,Option.some.injEq,Prod.mk.injEq] at ho
  exact ⟨ho.2.symm,.inl ⟨rfl,rfl,ho.1.symm⟩⟩
 | here l hv =>
  rcases aFB ho with ⟨h1,_⟩ | ⟨_,k,h2⟩
  ·cases h1
  ·cases h2
   exact ⟨rfl,.inr ⟨rfl,k,by rw [hv.int_inv]⟩⟩
theorem mO (isSlice:Bool) (n c M:Nat) (lov hiv mxv:Option Value) (l h:Int) (hlo:(lov=none∧l=0)∨∃ k,lov=some (.int k l))
  (hhi:(hiv=none∧mxv=none∧h=n)∨∃ k,hiv=some (.int k h)) (hmx:(mxv=none∧M=c)∨∃ k,mxv=some (.int k (M:Int))∧M≤c) (h1:0≤l) (h2:l≤h) (h3:h≤M) :
  (Instr.sliceBounds isSlice n c lov hiv mxv).run P w=.ok (l.toNat,h.toNat,M) w:=by
 have hh:h.toNat=h:=by omega
 rcases hmx with ⟨rfl,rfl⟩ | ⟨k,rfl,hM⟩
 ·rcases hhi with ⟨rfl,_,rfl⟩ | ⟨k,rfl⟩
  ·rcases hlo with ⟨rfl,rfl⟩ | ⟨k',rfl⟩
   ·simp [Instr.sliceBounds]
   ·have:=eR (P:=P) (w:=w) k' l n .sliceB ⟨h1,by omega⟩
    simp [Instr.sliceBounds,this]
  ·have e1:∀ code,(Instr.sliceBound (.int k h) M code).run P w=.ok h.toNat w:=fun code=>eR k h M code ⟨by omega,h3⟩
   rcases hlo with ⟨rfl,rfl⟩ | ⟨k',rfl⟩
   ·simp [Instr.sliceBounds,e1]
   ·have e2:∀ code,(Instr.sliceBound (.int k' l) h.toNat code).run P w=.ok l.toNat w:=fun code=>eR k' l h.toNat code ⟨h1,by omega⟩
    simp [Instr.sliceBounds,e1,e2]
 ·have e0:∀ code,(Instr.sliceBound (.int k (M:Int)) c code).run P w=.ok M w:=fun code=>by
   have:=eR (P:=P) (w:=w) k (M:Int) c code ⟨by omega,by omega⟩
   simpa using this
  rcases hhi with ⟨_,hn,_⟩ | ⟨k2,rfl⟩
  ·cases hn
  ·have e1:∀ code,(Instr.sliceBound (.int k2 h) M code).run P w=.ok h.toNat w:=fun code=>eR k2 h M code ⟨by omega,h3⟩
   rcases hlo with ⟨rfl,rfl⟩ | ⟨k',rfl⟩
   ·simp [Instr.sliceBounds,e0,e1]
   ·have e2:∀ code,(Instr.sliceBound (.int k' l) h.toNat code).run P w=.ok l.toNat w:=fun code=>eR k' l h.toNat code ⟨h1,by omega⟩
    simp [Instr.sliceBounds,e0,e1,e2]
theorem yH (m:Mem F B np w0 ext σ0 G hp tk w) {x:Value} {d:D} (hx:Rd F G tk x d) {lov hiv mxv:Option Value} {lo hi mx:Bool} {r0 r1 r2:List D} (hlo:Op1 F G tk lov lo r0 r1) (hhi:Op1 F G tk hiv hi r1 r2) (hmx:Op1 F G tk mxv mx r2 [])
  (hmh:mx=true→hi=true) (id nn:Nat) {t el:TypeId} {k:Nat} (hu:P.underlying t=some (.slice el)) (hk:cT P el=some k) {v:D} {u:Upd}
  (hh:(bC (.sliceSl k lo hi mx) id hp tk (d::r0)).holds v u) :
  Does F B np w0 ext σ0 G hp tk (((Instr.sliceAt t x lov hiv mxv).run P w).andThen fun v w=>.ok (.value v) w) id nn v u:=by
 cases d with
 | slice tg z n g =>
  simp only [bC] at hh
  cases hzz:Nat.beq z k with
  | false=>rw [hzz] at hh; exact (aH hh).elim
  | true =>
  rw [hzz] at hh
  have:=Nat.eq_of_beq_eq_true hzz
  subst this
  simp only [Bool.not_true,cond_false] at hh
  split at hh
  ·rename_i l r1' he1
   obtain ⟨rfl,hl⟩:=hlo.int he1
   split at hh
   ·rename_i h r2' he2
    obtain ⟨rfl,hh'⟩:=hhi.int he2
    split at hh
    ·rename_i mm he3
     obtain ⟨_,hm'⟩:=hmx.int he3
     obtain ⟨q1,rfl,rfl⟩:=aZ hh
     obtain ⟨q2,h4⟩:=iX q1
     obtain ⟨q3,h3⟩:=iX q2
     obtain ⟨h1,h2⟩:=iX q3
     clear q1 q2 q3
     simp only [decide_eq_true_eq,beq_iff_eq] at h1 h2 h3 h4
     subst h4
     have hp1:=hx.slice_inv.1
     obtain ⟨a,c,rfl,hnc,_,_⟩:=hp1.elem
     have hM:∃ M:Nat,((mxv=none∧M=c)∨∃ k,mxv=some (.int k (M:Int))∧M≤c)∧mm≤M∧(mx=true→(M:Int)=mm):=by
      rcases hm' with ⟨e1,e2,_⟩ | ⟨e1,k',e2⟩
      ·exact ⟨c,.inl ⟨e1,rfl⟩,by omega,fun e=>by rw [e2] at e; cases e⟩
      ·refine ⟨mm.toNat,.inr ⟨k',by rw [e2,show ((mm.toNat:Nat):Int)=mm from by omega],by omega⟩,by omega,fun _=>by omega⟩
     obtain ⟨M,hM1,hM2,hM3⟩:=hM
     have hrun:=mO (P:=P) (w:=w) true n c M lov hiv mxv l mm (by
       rcases hl with ⟨e1,_,e3⟩ | ⟨_,e⟩
       ·exact .inl ⟨e1,e3⟩
       ·exact .inr e) (by
       rcases hh' with ⟨e1,e2,e3⟩ | ⟨_,e⟩
       ·refine .inl ⟨e1,?_,e3⟩
        rcases hm' with ⟨e4,_⟩ | ⟨e4,_⟩
        ·exact e4
        ·exact absurd (hmh e4) (by rw [e2]; simp)
       ·exact .inr e) hM1 h1 h2 hM2
     refine Does.val m (v:=.slice (if M=l.toNat then a else a.map (·.add (l.toNat * z))) (mm.toNat - l.toNat) (M - l.toNat)) ?_ ?_ id nn
     ·have e1:(mm - l).toNat=mm.toNat - l.toNat:=by omega
      rw [e1]
      refine .any (.cell (.pure (hp1.sub rfl _ l.toNat (mm.toNat - l.toNat) (M - l.toNat) (by omega) (by omega) _ fun hpos=>?_) ?_))
      ·rw [if_neg (by omega)]
      ·cases mx with
       | false=>trivial
       | true =>
        have:=hM3 rfl
        refine ⟨if M=l.toNat then a else a.map (·.add (l.toNat * z)),?_⟩
        rw [show M - l.toNat=mm.toNat - l.toNat from by omega]
     ·simp [Instr.sliceAt,bQ hu,Instr.slice,hrun,dV hk]
    ·exact (aH hh).elim
   ·exact (aH hh).elim
  ·exact (aH hh).elim
 | _=>exact (aH hh).elim
theorem wL (m:Mem F B np w0 ext σ0 G hp tk w) {x:Value} {d:D} (hx:Rd F G tk x d) {lov hiv:Option Value} {lo hi:Bool} {r0 r1:List D} (hlo:Op1 F G tk lov lo r0 r1) (hhi:Op1 F G tk hiv hi r1 [])
  (id nn:Nat) {t:TypeId} (hu:P.underlying t=some .string) {v:D} {u:Upd} (hh:(bC (.sliceStr lo hi) id hp tk (d::r0)).holds v u) :
  Does F B np w0 ext σ0 G hp tk (((Instr.sliceAt t x lov hiv none).run P w).andThen fun v w=>.ok (.value v) w) id nn v u:=by
 cases d with
 | str s =>
  simp only [bC] at hh
  split at hh
  ·rename_i l r1' he1
   obtain ⟨rfl,hl⟩:=hlo.int he1
   split at hh
   ·rename_i h he2
    obtain ⟨_,hh'⟩:=hhi.int he2
    obtain ⟨q1,rfl,rfl⟩:=aZ hh
    obtain ⟨q2,h3⟩:=iX q1
    obtain ⟨h1,h2⟩:=iX q2
    clear q1 q2
    simp only [decide_eq_true_eq] at h1 h2 h3
    have:=hx.str_inv
    subst this
    have hrun:=mO (P:=P) (w:=w) false s.size s.size s.size lov hiv none l h (by
      rcases hl with ⟨e1,_,e3⟩ | ⟨_,e⟩
      ·exact .inl ⟨e1,e3⟩
      ·exact .inr e) (by
      rcases hh' with ⟨e1,e2,e3⟩ | ⟨_,e⟩
      ·exact .inl ⟨e1,rfl,e3⟩
      ·exact .inr e) (.inl ⟨rfl,rfl⟩) h1 h2 h3
    refine Does.val m (.any (.cell (.pure (.str _) trivial))) ?_ id nn
    simp [Instr.sliceAt,bQ hu,Instr.slice,hrun]
   ·exact (aH hh).elim
  ·exact (aH hh).elim
 | _=>exact (aH hh).elim
theorem aDJ (ns:List Int):∀ (b:ByteArray),(ns.foldl (fun r n=>r.push (UInt8.ofNat n.toNat)) b).data.toList=b.data.toList++ns.map fun n=>UInt8.ofNat n.toNat:=by
 induction ns with
 | nil=>intro b; simp
 | cons n ns ih =>
  intro b
  simp only [List.foldl_cons,ih,List.map_cons]
  simp [ByteArray.push]
theorem aHX (m:Mem F B np w0 ext σ0 G hp tk w) {x:Value} {d:D} (hx:Rd F G tk x d) (id nn:Nat) {src dst e:TypeId} (hs:P.underlying src=some (.slice e)) (he:P.underlying e=some (.int .u8)) (hd:P.underlying dst=some .string) {v:D} {u:Upd}
  (hh:(bC (.conv .b2s) id hp tk [d]).holds v u):Does F B np w0 ext σ0 G hp tk (((convert src dst x).run P w).andThen fun v w=>.ok (.value v) w) id nn v u:=by
 cases d with
 | slice tg z n g =>
  obtain ⟨hb,rfl,rfl⟩:=bK hh
  obtain ⟨a,c,rfl,hnc,hlen,hel⟩:=hx.slice_inv.1.elem
  have key:∃ ns:List Int,(Conv.bytesToString (.slice a n c)).run P w=.ok (.string (ns.foldl (fun r n=>r.push (UInt8.ofNat n.toNat)) ByteArray.empty)) w∧ns.map (fun n=>UInt8.ofNat n.toNat)=kM g n:=by
   cases a with
   | none =>
    have hn:n=0:=by
     rcases Nat.eq_zero_or_pos n with h | h
     ·exact h
     ·obtain ⟨b,o,h1,_⟩:=hel 0 h; cases h1
    subst hn
    exact ⟨[],by simp [Conv.bytesToString],rfl⟩
   | some ad =>
    have hz1:∀ i,i < n→z=1∧∃ bb:UInt8,w.cell? (ad.add i)=some (.int .u8 (bb.toNat:Int))∧rP (g i)=bb:=by
     intro i hi
     obtain ⟨bb,hg⟩:=hb i hi
     have h1:=hlen i hi
     rw [hg] at h1
     have hz:z=1:=by simpa using h1.symm
     subst hz
     obtain ⟨b,o,h2,h3⟩:=hel i hi
     cases h2
     obtain ⟨v,h4,h5⟩:=h3 0 (by rw [hg]; simp)
     rw [hg] at h5
     simp only [nth,D.pure1] at h5
     cases h5
     refine ⟨rfl,bb,?_,?_⟩
     ·rw [dT]
      have:=m.cell h4
      simpa using this
     ·rw [hg]
      simp [rP]
    have hbyte:∀ k,k≤n→kM g k=(List.range k).map fun i=>rP (g i):=by
     intro k hk
     induction k with
     | zero=>rfl
     | succ k ih=>rw [kM,ih (by omega),List.range_succ]; simp
    refine ⟨(List.range n).map fun i=>((rP (g i)).toNat:Int),?_,?_⟩
    ·refine run_bytesToString w ad n c _ ?_
     have:=run_loadCells (P:=P) w ad n (fun i=>.int .u8 ((rP (g i)).toNat:Int)) (fun i hi=>by
      obtain ⟨_,bb,h1,h2⟩:=hz1 i hi
      rw [h2]
      exact h1)
     rw [this]
     simp
    ·rw [hbyte n (Nat.le_refl _)]
     simp
  obtain ⟨ns,h1,h2⟩:=key
  refine Does.val m (v:=.string (t8 n g)) (.any (.cell (.pure (.str _) trivial))) ?_ id nn
  rw [run_convert_bytes_string w src dst e a n c hs he hd,h1]
  have:(ns.foldl (fun r n=>r.push (UInt8.ofNat n.toNat)) ByteArray.empty)=t8 n g:=by
   have h3:=aDJ ns ByteArray.empty
   rw [h2] at h3
   have h4:(ns.foldl (fun r n=>r.push (UInt8.ofNat n.toNat)) ByteArray.empty).data=(kM g n).toArray:=by
    apply Array.ext'
    rw [h3,show ByteArray.empty.data.toList=[] from rfl]
    simp
   calc _=(⟨(ns.foldl (fun r n=>r.push (UInt8.ofNat n.toNat)) ByteArray.empty).data⟩:ByteArray):=rfl
    _=_:=by rw [h4]; rfl
  rw [this]
  rfl
 | _=>exact (aH hh).elim
end
section
variable {P:Program} {F:Nat→FuncId} {B np:Nat} {w0 w w':World} {ext:List Nat} {σ0:Og} {G G':Gh} {hp:Nat→Option (Bool×List D)} {tk tk':Nat→Option (Nat×Nat)}
theorem lE {lo hi lo' hi' j:Nat} (h:(Nat.ble lo j&&Nat.blt j hi)=false) (h1:lo≤lo') (h2:hi'≤hi):(Nat.ble lo' j&&Nat.blt j hi')=false:=by
 have:=cP h
 cases hb:(Nat.ble lo' j&&Nat.blt j hi') with
 | false=>rfl
 | true =>
  obtain ⟨e1,e2⟩:=iX hb
  have e1:=Nat.le_of_ble_eq_true e1
  rw [Nat.blt_eq] at e2
  exact absurd ⟨by omega,by omega⟩ this
theorem iF {lo hi lo' hi':Nat} {d:D} (h:d.names1 lo hi=false) (h1:lo≤lo') (h2:hi'≤hi):d.names1 lo' hi'=false:=by
 cases d with
 | ptr j o=>exact lE h h1 h2
 | mref j=>exact lE h h1 h2
 | msl j z n=>exact lE h h1 h2
 | rptr j z n i o=>exact lE h h1 h2
 | slice t z n g=>cases t with
  | own j=>exact lE h h1 h2
  | _=>rfl
 | _=>rfl
theorem eS {lo hi lo' hi':Nat} {l:List D} (h:names lo hi l=false) (h1:lo≤lo') (h2:hi'≤hi):names lo' hi' l=false:=by
 induction l with
 | nil=>rfl
 | cons d l ih =>
  simp only [names] at h ⊢
  cases hd:d.names1 lo hi with
  | true=>rw [hd] at h; simp at h
  | false =>
   rw [hd] at h
   rw [iF hd h1 h2]
   exact ih (by simpa using h)
theorem fC {lo hi:Nat} {l:List D} (h:∀ j,j < l.length→(nth l j .dead).names1 lo hi=false):names lo hi l=false:=by
 induction l with
 | nil=>rfl
 | cons d l ih =>
  simp only [names]
  have h0:=h 0 (by simp)
  simp only [nth] at h0
  rw [h0]
  exact ih fun j hj=>h (j+1) (by simpa using hj)
theorem sT {lo hi lo' hi':Nat} {d:D} (h:d.names lo hi=false) (h1:lo≤lo') (h2:hi'≤hi):d.names lo' hi'=false:=by
 cases d with
 | agg l=>exact eS h h1 h2
 | tup l=>exact eS h h1 h2
 | ptr j o=>exact iF (d:=.ptr j o) h h1 h2
 | slice t z n g=>exact iF (d:=.slice t z n g) h h1 h2
 | mref j=>exact iF (d:=.mref j) h h1 h2
 | msl j z n=>exact iF (d:=.msl j z n) h h1 h2
 | rptr j z n i o=>exact iF (d:=.rptr j z n i o) h h1 h2
 | _=>rfl
theorem nO {lo hi:Nat} {d:D} (h:d.names lo hi=false) (hs:aQ d.cells=true):names lo hi d.cells=false:=by
 cases d with
 | agg l=>exact h
 | tup l=>simp [D.cells,aQ] at hs
 | dead=>simp [D.cells,aQ] at hs
 | mref j=>simp [D.cells,aQ] at hs
 | msl j z n=>simp [D.cells,aQ] at hs
 | rptr j z n i o=>simp [D.cells,aQ] at hs
 | ptr j o=>simp only [D.cells,names]; rw [show (D.ptr j o).names1 lo hi=false from h]; rfl
 | slice t z n g=>simp only [D.cells,names]; rw [show (D.slice t z n g).names1 lo hi=false from h]; rfl
 | _=>rfl
structure Free (hp:Nat→Option (Bool×List D)) (tk:Nat→Option (Nat×Nat)) (lo hi:Nat):Prop where
 hp:∀ id f cs,hp id=some (f,cs)→¬(lo≤id∧id < hi)∧names lo hi cs=false
 tk:∀ i e,tk i=some e→¬(lo≤i∧i < hi)
theorem Free.var {lo hi:Nat} (f:Free hp tk lo hi) {id:Nat} (h:lo≤id∧id < hi):hp id=none:=by
 cases hh:hp id with
 | none=>rfl
 | some e=>exact absurd h (f.hp id e.1 e.2 hh).1
theorem Free.tok {lo hi:Nat} (f:Free hp tk lo hi) {i:Nat} (h:lo≤i∧i < hi):tk i=none:=by
 cases hh:tk i with
 | none=>rfl
 | some e=>exact absurd h (f.tk i e hh)
theorem Mem.newVar (m:Mem F B np w0 ext σ0 G hp tk w) {id nn:Nat} (hn:0 < nn) (fr:Free hp tk id (id+nn)) (c:Array Value) (e:TypeId) (cs:List D) (hs:aQ cs=true) (hc:c.size=cs.length)
  (hr:∀ j,j < cs.length→Rc F G tk (c.getD j undef) (nth cs j .dead)) (hcl:names id (id+1) cs=false) :
  ∃ G',Mem F B np w0 ext σ0 G' (eV hp [(id,false,cs)]) tk (w.alloc (.cells c e))∧Keeps id (id+nn) G G' tk tk∧G'.β id=w.heap.size∧G'.ρ=G.ρ:=by
 have m1:=m.newBlock c e (0,0) (fun _=>none) (fun _ _ h=>by cases h)
 have hle:=f0 m (fun _=>none)
 have hk:Keeps id (id+nn) G { σ:=aT G.σ w.heap.size (fun _=>none),β:=fun j=>if j=id then w.heap.size else G.β j,ρ:=G.ρ,η:=G.η,γ:=G.γ } tk tk :=
  ⟨hle,fun j hj=>by simp only; rw [if_neg (by omega)],fun _ z m _ e=>⟨z,m,e,Nat.le_refl _,fun _=>rfl⟩,fun _ _ _ _ e=>e⟩
 have hk1:Keeps id (id+1) G { σ:=aT G.σ w.heap.size (fun _=>none),β:=fun j=>if j=id then w.heap.size else G.β j,ρ:=G.ρ,η:=G.η,γ:=G.γ } tk tk :=
  ⟨hle,fun j hj=>by simp only; rw [if_neg (by omega)],fun _ z m _ e=>⟨z,m,e,Nat.le_refl _,fun _=>rfl⟩,fun _ _ _ _ e=>e⟩
 have m2:=m1.addVar id w.heap.size cs c e (heap_alloc_new w _) hs hc (fun j hj=>(hr j hj).keep hk1 (eN hcl hj)) (fun o=>by simp [aT])
  (fun k hk=>by have:=m.own_lt (k:=k) (b:=w.heap.size) (by cases k <;> exact hk); omega) (.inl m.base) (fr.var ⟨Nat.le_refl _,by omega⟩)
  (fun id' f cs' h=>eS (fr.hp id' f cs' h).2 (Nat.le_refl _) (by omega)) m.resv_new
 exact ⟨_,m2,hk,by simp,rfl⟩
theorem aGL (m:Mem F B np w0 ext σ0 G hp tk w) {x:Value} {d:D} (hx:Rd F G tk x d) {id nn:Nat} (hn:0 < nn) (fr:Free hp tk id (id+nn)) (hnm:d.names id (id+nn)=false) (t:TypeId) {v:D} {u:Upd}
  (hh:(bC .box id hp tk [d]).holds v u):Does F B np w0 ext σ0 G hp tk (((Instr.box t x).run P w).andThen fun v w=>.ok (.value v) w) id nn v u:=by
 simp only [bC] at hh
 cases hs:aQ d.cells with
 | false=>rw [hs] at hh; exact (aH hh).elim
 | true =>
  rw [hs] at hh
  obtain ⟨rfl,rfl⟩:=bH hh
  obtain ⟨h1,h2⟩:=hx.cells hs
  obtain ⟨G',m',hk,hβ,_⟩:=m.newVar hn fr x.cells t d.cells hs h1 h2 (eS (nO hnm hs) (Nat.le_refl _) (by omega))
  refine ⟨_,_,_,G',?_,.inl rfl,m',.any (.cell (.ptr id 0)),hk⟩
  rw [hβ]
  simp [Instr.box,newVar,newRow]
theorem Mem.nilTok (m:Mem F B np w0 ext σ0 G hp tk w) {i:Nat} (z:Nat) (fr:Free hp tk i (i+1)) :
  Mem F B np w0 ext σ0 { G with ρ:=fun j=>if j=i then .slice none 0 0 else G.ρ j } hp (cX tk [(i,z,0)]) w :=
 m.addTok i z 0 0 none (Nat.le_refl _) (fun h=>by omega) (fun id' f cs' h j hj ⟨z',m',g,he⟩=>by
  have:=eN (fr.hp id' f cs' h).2 hj
  rw [he] at this
  exact absurd ⟨Nat.le_refl _,Nat.lt_succ_self _⟩ (cP this))
theorem aDU {l:List (Nat×Nat×Nat)} {j:Nat} (h:∀ p∈l,p.1≠j):cX tk l j=tk j:=by
 induction l generalizing tk with
 | nil=>rfl
 | cons p l ih =>
  obtain ⟨i,e⟩:=p
  simp only [cX]
  rw [ih (fun q hq=>h q (List.mem_cons_of_mem _ hq))]
  have:Nat.beq j i=false:=by
   cases hh:Nat.beq j i with
   | false=>rfl
   | true=>exact absurd (Nat.eq_of_beq_eq_true hh).symm (h (i,e) (by simp))
  rw [this]
  rfl
theorem aD0 (σ:Sg) (t:Tag) (z:Nat) (g:Nat→List D):Rp σ (.slice none 0 0) (.slice t z 0 g) :=
 .slice none 0 0 t z g 0 0 (fun _ _=>undef) (Nat.le_refl _) (fun h=>absurd rfl h) (fun i hi=>by omega) (fun i j hi=>by omega) (fun i j hi=>by omega)
theorem aD5 (m:Mem F B np w0 ext σ0 G hp tk w) {id nn:Nat} (hn:0 < nn) (fr:Free hp tk id (id+nn)) (z:Nat) {v:D} {u:Upd} (hh:(bC (.nilSl z) id hp tk []).holds v u) :
  Does F B np w0 ext σ0 G hp tk (.ok (.value (.slice none 0 0)) w) id nn v u:=by
 obtain ⟨rfl,rfl⟩:=bH hh
 have fr1:Free hp tk id (id+1):=⟨fun id' f cs' h=>⟨fun hh=>(fr.hp id' f cs' h).1 ⟨hh.1,by omega⟩,eS (fr.hp id' f cs' h).2 (Nat.le_refl _) (by omega)⟩,fun i e h hh=>fr.tk i e h ⟨hh.1,by omega⟩⟩
 refine ⟨w,_,_,_,rfl,.inl rfl,m.nilTok z fr1,.any (.cell (.pure (aD0 _ _ _ _) ?_)),⟨SgLe.refl _,fun _ _=>rfl,?_,fun _ _ _ _ e=>e⟩⟩
 ·intro z' m' h
  rcases a8 h with ⟨_,h1⟩ | ⟨h1,_⟩
  ·cases h1
   exact ⟨Nat.le_refl _,fun _=>by simp⟩
  ·exact absurd rfl h1
 ·intro j z' m' hj h
  rcases a8 h with ⟨rfl,_⟩ | ⟨h1,h2⟩
  ·exact absurd ⟨Nat.le_refl _,by omega⟩ hj
  ·exact ⟨z',m',h2,Nat.le_refl _,fun _=>by simp only; rw [if_neg h1]⟩
end
section
variable {P:Program} {F:Nat→FuncId} {B np:Nat} {w0 w w':World} {ext:List Nat} {σ0:Og} {G G':Gh} {hp:Nat→Option (Bool×List D)} {tk tk':Nat→Option (Nat×Nat)}
theorem Free.sub {lo hi lo' hi':Nat} (f:Free hp tk lo hi) (h1:lo≤lo') (h2:hi'≤hi):Free hp tk lo' hi' :=
 ⟨fun id g cs h=>⟨fun hh=>(f.hp id g cs h).1 ⟨by omega,by omega⟩,eS (f.hp id g cs h).2 h1 h2⟩,fun i e h hh=>f.tk i e h ⟨by omega,by omega⟩⟩
theorem aCG {v:Value} {d:D} (h:i3 v=some d):(v=.slice none 0 0∧d=.slice .full 0 0 eM)∨((∀ t z n g,d≠.slice t z n g)∧d.names1 0 0=false∧aQ [d]=true):=by
 unfold i3 at h
 split at h <;> cases h
 ·exact .inr ⟨fun _ _ _ _=>by simp,rfl,rfl⟩
 ·exact .inr ⟨fun _ _ _ _=>by simp,rfl,rfl⟩
 ·exact .inr ⟨fun _ _ _ _=>by simp,rfl,rfl⟩
 ·exact .inr ⟨fun _ _ _ _=>by simp,rfl,rfl⟩
 ·exact .inl ⟨rfl,rfl⟩
theorem aGB {d:D} (h:∀ t z n g,d≠.slice t z n g) (l:List D) (zs:List Nat):gJ (d::l) zs=d::gJ l (zs.drop 1):=by
 cases d <;> first | rfl | (exact absurd rfl (h _ _ _ _))
theorem aCX {d:D} (h:∀ t z n g,d≠.slice t z n g) (l:List D) (i:Nat):cY (d::l) i=d::cY l (i+1):=by
 cases d <;> first | rfl | (exact absurd rfl (h _ _ _ _))
theorem yM {d:D} (h:∀ t z n g,d≠.slice t z n g) (l:List D) (i:Nat):bD (d::l) i=bD l (i+1):=by
 cases d <;> first | rfl | (exact absurd rfl (h _ _ _ _))
theorem oN:∀ (l:List Value) (ds:List D) (zs:List Nat) (i:Nat) (G:Gh) (tk:Nat→Option (Nat×Nat)),dM l=some ds→Mem F B np w0 ext σ0 G hp tk w→Free hp tk i (i+ds.length) →
  ∃ ρ',Mem F B np w0 ext σ0 { G with ρ:=ρ' } hp (cX tk (bD (gJ ds zs) i)) w∧(∀ j,¬(i≤j∧j < i+ds.length)→ρ' j=G.ρ j∧cX tk (bD (gJ ds zs) i) j=tk j) ∧
   (∀ j z m,i≤j∧j < i+ds.length→cX tk (bD (gJ ds zs) i) j=some (z,m)→m=0∧ρ' j=.slice none 0 0) ∧
   (cY (gJ ds zs) i).length=ds.length∧aQ (cY (gJ ds zs) i)=true ∧
   (∀ j,j < ds.length→(∃ z,l.getD j undef=.slice none 0 0∧nth (cY (gJ ds zs) i) j .dead=.slice (.own (i+j)) z 0 eM)∨(nth (cY (gJ ds zs) i) j .dead=nth ds j .dead∧(nth ds j .dead).names1 0 0=false∧∀ k,(nth ds j .dead).names1 k (k+1)=false))
 | [],ds,zs,i,G,tk,h,m,fr=>by
  cases h
  exact ⟨G.ρ,m,fun j _=>⟨rfl,rfl⟩,fun j z mm hj hz=>by simp at hj; omega,rfl,rfl,fun j hj=>by simp at hj⟩
 | v::l,ds,zs,i,G,tk,h,m,fr=>by
  simp only [dM] at h
  split at h
  ·rename_i d ds' h1 h2
   cases h
   simp only [List.length_cons] at fr
   rcases aCG h1 with ⟨rfl,rfl⟩ | ⟨hns,hnm,hsol⟩
   ·cases zs with
    | nil =>
     obtain ⟨ρ',e1,e2,e3,e4,e5,e6⟩:=oN l ds' [] (i+1) G tk h2 m (fr.sub (by omega) (by omega))
     have q1:bD (gJ (.slice .full 0 0 eM::ds') []) i=bD (gJ ds' []) (i+1):=rfl
     have q2:cY (gJ (.slice .full 0 0 eM::ds') []) i=.slice .full 0 0 eM::cY (gJ ds' []) (i+1):=rfl
     rw [q1,q2]
     refine ⟨ρ',e1,fun j hj=>e2 j (by simp at hj; omega),fun j z mm hj hz=>?_,by simp [e4],by simp [aQ,e5],fun j hj=>?_⟩
     ·by_cases hji:j=i
      ·subst hji
       have:=(e2 j (by omega)).2
       rw [this,fr.tok ⟨Nat.le_refl _,by omega⟩] at hz
       cases hz
      ·exact e3 j z mm (by simp at hj; omega) hz
     ·cases j with
      | zero=>exact .inr ⟨rfl,rfl,fun _=>rfl⟩
      | succ j =>
       have:=e6 j (by simpa using hj)
       rw [show i+(j+1)=i+1+j from by omega]
       exact this
    | cons z zs =>
     have m1:=m.nilTok z (fr.sub (Nat.le_refl _) (by omega):Free hp tk i (i+1))
     have fr1:Free hp (cX tk [(i,z,0)]) (i+1) (i+1+ds'.length):=by
      refine ⟨(fr.sub (by omega) (by omega)).hp,fun j e h hh=>?_⟩
      rcases a8 h with ⟨rfl,_⟩ | ⟨_,h3⟩
      ·omega
      ·exact fr.tk j e h3 ⟨by omega,by omega⟩
     obtain ⟨ρ',e1,e2,e3,e4,e5,e6⟩:=oN l ds' zs (i+1) _ _ h2 m1 fr1
     have q1:cX tk (bD (gJ (.slice .full 0 0 eM::ds') (z::zs)) i)=cX (cX tk [(i,z,0)]) (bD (gJ ds' zs) (i+1)):=rfl
     have q2:cY (gJ (.slice .full 0 0 eM::ds') (z::zs)) i=.slice (.own i) z 0 eM::cY (gJ ds' zs) (i+1):=rfl
     rw [q1,q2]
     refine ⟨ρ',e1,fun j hj=>?_,fun j z' mm hj hz=>?_,by simp [e4],by simp [aQ,e5],fun j hj=>?_⟩
     ·obtain ⟨e7,e8⟩:=e2 j (by simp at hj; omega)
      have hji:j≠i:=by simp at hj; omega
      refine ⟨by rw [e7]; simp only; rw [if_neg hji],?_⟩
      rw [e8]
      exact aDU (fun p hp=>by simp at hp; subst hp; exact fun h=>hji h.symm)
     ·by_cases hji:j=i
      ·subst hji
       obtain ⟨e7,e8⟩:=e2 j (by omega)
       rw [e8] at hz
       rcases a8 hz with ⟨_,h3⟩ | ⟨h3,_⟩
       ·cases h3
        exact ⟨rfl,by rw [e7]; simp⟩
       ·exact absurd rfl h3
      ·exact e3 j z' mm (by simp at hj; omega) hz
     ·cases j with
      | zero=>exact .inl ⟨z,rfl,rfl⟩
      | succ j =>
       have:=e6 j (by simpa using hj)
       rw [show i+(j+1)=i+1+j from by omega]
       exact this
   ·obtain ⟨ρ',e1,e2,e3,e4,e5,e6⟩:=oN l ds' (zs.drop 1) (i+1) G tk h2 m (fr.sub (by omega) (by omega))
    rw [aGB hns,yM hns,aCX hns]
    refine ⟨ρ',e1,fun j hj=>e2 j (by simp at hj; omega),fun j z mm hj hz=>?_,by rw [List.length_cons,e4,List.length_cons],?_,fun j hj=>?_⟩
    ·by_cases hji:j=i
     ·subst hji
      have:=(e2 j (by omega)).2
      rw [this,fr.tok ⟨Nat.le_refl _,by omega⟩] at hz
      cases hz
     ·exact e3 j z mm (by simp at hj; omega) hz
    ·cases d <;> first | exact e5 | simp [aQ] at hsol
    ·cases j with
     | zero =>
      refine .inr ⟨rfl,hnm,fun k=>?_⟩
      simp only [nth]
      cases d <;> first | rfl | (exact absurd rfl (hns _ _ _ _)) | (simp [aQ] at hsol; done) | skip
      ·unfold i3 at h1
       split at h1 <;> cases h1
     | succ j =>
      have:=e6 j (by simpa using hj)
      rw [show i+(j+1)=i+1+j from by omega]
      exact this
  ·cases h
theorem gO {l:List Value} {ds:List D} (h:dM l=some ds):l.length=ds.length:=(eI (F:=fun _=>0) (G:=⟨fun _ _=>none,fun _=>0,fun _=>undef,fun _ _=>none,fun _=>none⟩) (tk:=fun _=>none) h).1
theorem aC7 (m:Mem F B np w0 ext σ0 G hp tk w) {id nn:Nat} (t:TypeId) {i:TypeInfo} {z:Value} (hi:P.info? t=some i) (hz:i.zero=some z) {ds:List D} (hds:dM z.cells.toList=some ds) (zs:List Nat)
  (hn:nn=1+(gJ ds zs).length) (hlen:(gJ ds zs).length=ds.length) (fr:Free hp tk id (id+nn)) {v:D} {u:Upd} (hh:(bC (.alloc (gJ ds zs)) id hp tk []).holds v u) :
  Does F B np w0 ext σ0 G hp tk (((Instr.alloc t true (.tuple #[])).run P w).andThen fun v w=>.ok (.value v) w) id nn v u:=by
 simp only [bC] at hh
 cases hs:aQ (gJ ds zs) with
 | false=>rw [hs] at hh; exact (aH hh).elim
 | true =>
  rw [hs] at hh
  obtain ⟨rfl,rfl⟩:=bH hh
  have hl:=gO hds
  obtain ⟨ρ',e1,e2,e3,e4,e5,e6⟩:=oN z.cells.toList ds zs (id+1) G tk hds m (fr.sub (by omega) (by omega))
  have fr1:Free hp (cX tk (bD (gJ ds zs) (id+1))) id (id+1):=by
   refine ⟨(fr.sub (Nat.le_refl _) (by omega)).hp,fun j e h hh=>?_⟩
   rw [(e2 j (by omega)).2] at h
   exact fr.tk j e h ⟨hh.1,by omega⟩
  have hcs:=(eI (F:=F) (G:={ G with ρ:=ρ' }) (tk:=cX tk (bD (gJ ds zs) (id+1))) hds).2
  obtain ⟨G',m',hk,hβ,hρ⟩:=e1.newVar (id:=id) (nn:=1) (by omega) fr1 z.cells t (cY (gJ ds zs) (id+1)) e5 (by rw [e4,← hl]; simp) (fun j hj=>by
   rw [e4] at hj
   rcases e6 j hj with ⟨zz,h1,h2⟩ | ⟨h1,_,_⟩
   ·rw [h2,bS,h1]
    refine .pure (aD0 _ _ _ _) fun z' m' h=>?_
    obtain ⟨h3,h4⟩:=e3 (id+1+j) z' m' ⟨by omega,by omega⟩ h
    exact ⟨Nat.zero_le _,fun _=>h4.symm⟩
   ·rw [h1,bS]
    exact hcs j hj) (fC fun j hj=>by
   rw [e4] at hj
   rcases e6 j hj with ⟨zz,_,h2⟩ | ⟨h1,_,h3⟩
   ·rw [h2]
    simp only [D.names1]
    cases hb:(Nat.ble id (id+1+j)&&Nat.blt (id+1+j) (id+1)) with
    | false=>rfl
    | true =>
     have:=(iX hb).2
     rw [Nat.blt_eq] at this
     omega
   ·rw [h1]
    exact h3 id)
  refine ⟨_,.value (.pointer (some ⟨w.heap.size,0,none⟩)),_,G',?_,.inl rfl,m',?_,?_⟩
  ·simp [Instr.alloc,zeroValue,typeInfo,program,Sem.run,hi,hz,newVar,newRow]
  ·rw [← hβ]
   exact .any (.cell (.ptr id 0))
  ·refine ⟨hk.σ,fun j hj=>hk.β j (by omega),fun j z' m' hj h=>?_,fun i n v hi h=>?_⟩
   rotate_left
   ·exact hk.row i n v (by omega) h
   obtain ⟨h1,h2⟩:=e2 j (by omega)
   rw [h2] at h
   exact ⟨z',m',h,Nat.le_refl _,fun _=>by rw [hρ]; exact h1⟩
end
section
variable {P:Program} {F:Nat→FuncId} {B np:Nat} {w0 w w':World} {ext:List Nat} {σ0:Og} {G G':Gh} {hp:Nat→Option (Bool×List D)} {tk tk':Nat→Option (Nat×Nat)}
theorem eE (l:List D):∀ (cs:List D) (o:Nat),(eK cs o l).length=cs.length:=by
 induction l with
 | nil=>intro cs o; rfl
 | cons d l ih=>intro cs o; simp only [eK,ih,cR]
theorem lV (l:List D):∀ (cs:List D) (o j:Nat),nth (eK cs o l) j .dead=if o≤j∧j < o+l.length∧j < cs.length then nth l (j - o) .dead else nth cs j .dead:=by
 induction l with
 | nil=>intro cs o j; simp only [eK]; rw [if_neg (by simp; omega)]
 | cons d l ih =>
  intro cs o j
  simp only [eK]
  rw [ih,gF,cR]
  simp only [List.length_cons]
  by_cases h1:o+1≤j∧j < o+1+l.length∧j < cs.length
  ·rw [if_pos h1,if_pos (by omega)]
   rw [show j - o=(j - (o+1))+1 from by omega]
   rfl
  ·rw [if_neg h1]
   by_cases h2:o=j∧j < cs.length
   ·rw [if_pos h2,if_pos (by omega),show j - o=0 from by omega]
    rfl
   ·rw [if_neg h2]
    by_cases h3:o≤j∧j < o+(l.length+1)∧j < cs.length
    ·omega
    ·rw [if_neg h3]
theorem zI {l:List D} (h:∀ j,j < l.length→aQ [nth l j .dead]=true):aQ l=true:=by
 induction l with
 | nil=>rfl
 | cons d l ih =>
  have h0:=h 0 (by simp)
  have h1:=ih fun j hj=>h (j+1) (by simpa using hj)
  simp only [nth] at h0
  cases d <;> first | exact h1 | simp [aQ] at h0
theorem uE {l:List D} (h:aQ l=true) {j:Nat} (hj:j < l.length):aQ [nth l j .dead]=true:=by
 induction l generalizing j with
 | nil=>simp at hj
 | cons d l ih =>
  cases j with
  | zero=>simp only [nth]; cases d <;> first | rfl | simp [aQ] at h
  | succ j =>
   refine ih (j:=j) ?_ (by simpa using hj)
   cases d <;> first | exact h | simp [aQ] at h
theorem i5 (w:World) (b:Nat) (cs:Array Value):vB b w (w.setRow b cs) :=
 ⟨rfl,rfl,rfl,by simp,fun k hk=>setRow_other w b k cs hk⟩
theorem nM (c:Array Value) (p:Nat) (ys:List Value) (h:p+ys.length≤c.size):(c.toList.take p++ys++c.toList.drop (p+ys.length)).toArray.size=c.size:=by
 simp only [List.size_toArray,List.length_append,List.length_take,List.length_drop,Array.length_toList]
 omega
theorem o6 (c:Array Value) (p:Nat) (ys:List Value) (h:p+ys.length≤c.size) (j:Nat):(c.toList.take p++ys++c.toList.drop (p+ys.length)).toArray.getD j undef=if p≤j∧j < p+ys.length then ys.getD (j - p) undef else c.getD j undef:=by
 have hcl:c.toList.length=c.size:=by simp
 have htl:(c.toList.take p).length=p:=by rw [List.length_take,hcl]; omega
 simp only [Array.getD_eq_getD_getElem?,List.getElem?_toArray]
 by_cases hlt:j < p
 ·rw [List.append_assoc,List.getElem?_append_left (by omega),if_neg (by omega),List.getElem?_take_of_lt hlt]
  simp
 ·by_cases hmid:j < p+ys.length
  ·rw [if_pos ⟨by omega,hmid⟩,List.getElem?_append_left (by rw [List.length_append]; omega),List.getElem?_append_right (by omega),htl,List.getD_eq_getElem?_getD]
  ·have h6:(c.toList.take p++ys).length=p+ys.length:=by rw [List.length_append,htl]
   rw [if_neg (by omega),List.getElem?_append_right (by omega),List.getElem?_drop,h6,show p+ys.length+(j - (p+ys.length))=j from by omega]
   simp
theorem aAQ {g:List D} {o m z:Nat} {x:List D} (hx:x.length=m) (hg:g.length=z):(bif Nat.beq m z then aV x else eK g o (aV x)).length=z:=by
 cases h:Nat.beq m z with
 | true=>have:=Nat.eq_of_beq_eq_true h; simp only [cond_true,aU]; omega
 | false=>simp only [cond_false,eE]; exact hg
theorem aBK {g:List D} {o m z:Nat} {x:List D} (hx:x.length=m) (hg:g.length=z) (ho:o+m≤z) {j:Nat} (hj:j < z) :
  nth (bif Nat.beq m z then aV x else eK g o (aV x)) j .dead=if o≤j∧j < o+m then (nth x (j - o) .dead).pure1 else nth g j .dead:=by
 cases h:Nat.beq m z with
 | true =>
  have:=Nat.eq_of_beq_eq_true h
  have h0:o=0:=by omega
  subst h0
  simp only [cond_true]
  rw [bF,if_pos ⟨Nat.zero_le _,by omega⟩,Nat.sub_zero]
 | false =>
  simp only [cond_false]
  rw [lV,aU,bF]
  by_cases hc:o≤j∧j < o+m
  ·rw [if_pos hc,if_pos ⟨hc.1,by omega,by omega⟩]
  ·rw [if_neg hc,if_neg (by omega)]
theorem aC9 (m:Mem F B np w0 ext σ0 G hp tk w) {x y:Value} {d e:D} (hx:Rd F G tk x d) (hy:Rd F G tk y e) (id nn:Nat) {t:TypeId} {k:Nat} (hk:cT P t=some k) {v:D} {u:Upd}
  (hh:(bC (.store k) id hp tk [d,e]).holds v u):Does F B np w0 ext σ0 G hp tk (((Instr.storeAt t x y).run P w).andThen fun _ w=>.ok .skip w) id nn v u:=by
 cases d with
 | ptr i o =>
  simp only [bC] at hh
  split at hh
  ·rename_i cs hi
   cases hsol:aQ cs with
   | false=>rw [hsol] at hh; exact (aH hh).elim
   | true =>
   rw [hsol] at hh
   simp only [Bool.not_true,cond_false] at hh
   cases hc:(aQ e.cells&&Nat.beq e.cells.length k&&Nat.ble (o+k) cs.length) with
   | false=>rw [hc] at hh; exact (aH hh).elim
   | true =>
    rw [hc] at hh
    obtain ⟨rfl,rfl⟩:=bH hh
    obtain ⟨q1,h3⟩:=iX hc
    obtain ⟨h1,h2⟩:=iX q1
    have h2:=Nat.eq_of_beq_eq_true h2
    have h3:=Nat.le_of_ble_eq_true h3
    have hxx:=hx.ptr_inv
    subst hxx
    obtain ⟨h4,h5⟩:=hy.cells h1
    obtain ⟨o1,hb,hh1,hσ⟩:=m.vars i cs hi (cK hsol)
    obtain ⟨c,et,rfl,hcl,hr⟩:=hh1.cells hsol
    have hone:∀ u∈y.cells.toList,u.oneCell'=true:=by
     intro u hu
     obtain ⟨j,hj,rfl⟩:=List.mem_iff_getElem.1 hu
     have hj':j < e.cells.length:=by simp at hj; omega
     have:=(h5 j hj').oneCell (lD h1 hj') (nI h1)
     rw [bS] at this
     have hj2:j < y.cells.size:=by simpa using hj
     simpa [List.getD,hj2] using this
    have hrun:=run_storeCells_at (P:=P) (G.β i) o et y.cells.toList 0 c w hb (by simp; omega) hone
    simp only [Nat.add_zero] at hrun
    generalize hc2:(c.toList.take o++y.cells.toList++c.toList.drop (o+y.cells.toList.length)).toArray=c2 at hrun
    refine ⟨w.setRow (G.β i) c2,.skip,undef,G,?_,.inr ⟨rfl,rfl⟩,m.setVar i cs (eK cs o e.cells) hi c2 et (i5 w _ _) (setRow_heap w _ c _ et _ hb) (cK hsol) ?_ ?_ ?_,Rd.dead _,Keeps.refl _ _ _ _⟩
    ·have hne:¬(y.cells.size≠k):=by omega
     simp only [Instr.storeAt,Instr.sureAddr,storeVar,Sem.run_bind,Sem.run_pure,Result.andThen_ok,dV hk,Sem.run_ite,if_neg hne,hrun]
    ·refine zI fun j hj=>?_
     rw [eE] at hj
     rw [lV]
     split
     ·rename_i hjj
      exact uE h1 (by omega)
     ·exact uE hsol hj
    ·rw [← hc2]
     simp only [List.size_toArray,List.length_append,List.length_take,List.length_drop,Array.length_toList,eE]
     omega
    ·intro j hj
     rw [eE] at hj
     rw [lV,← hc2]
     have hget:(c.toList.take o++y.cells.toList++c.toList.drop (o+y.cells.toList.length)).toArray.getD j undef=if o≤j∧j < o+e.cells.length then y.cells.getD (j - o) undef else c.getD j undef:=by
      have hys:y.cells.toList.length=e.cells.length:=by simpa using h4
      simp only [Array.getD_eq_getD_getElem?,List.getElem?_toArray]
      by_cases hlt:j < o
      ·rw [List.append_assoc,List.getElem?_append_left (by simp; omega),if_neg (by omega)]
       rw [List.getElem?_take_of_lt hlt]
       simp
      ·by_cases hmid:j < o+e.cells.length
       ·rw [if_pos ⟨by omega,hmid⟩]
        rw [List.getElem?_append_left (by simp; omega),List.getElem?_append_right (by simp; omega)]
        have:(c.toList.take o).length=o:=by simp; omega
        rw [this]
        simp
       ·rw [if_neg (by omega)]
        rw [List.getElem?_append_right (by simp; omega),List.getElem?_drop]
        have h6:(c.toList.take o++y.cells.toList).length=o+e.cells.length:=by
         rw [List.length_append,hys]; simp; omega
        rw [h6,hys,show o+e.cells.length+(j - (o+e.cells.length))=j from by omega]
        simp
     rw [hget]
     by_cases hjj:o≤j∧j < o+e.cells.length
     ·rw [if_pos hjj,if_pos ⟨hjj.1,hjj.2,hj⟩]
      exact h5 (j - o) (by omega)
     ·rw [if_neg hjj,if_neg (by omega)]
      exact hr j hj
  ·exact (aH hh).elim
 | rptr i z n' q o =>
  simp only [bC] at hh
  unfold nP at hh
  split at hh
  ·rename_i fw z' n2 g2 hi
   cases hc:(Nat.beq z' z&&aQ e.cells&&Nat.beq e.cells.length k&&Nat.ble (o+k) z) with
   | false=>rw [hc] at hh; exact (aH hh).elim
   | true =>
   rw [hc] at hh
   obtain ⟨q1,h3⟩:=iX hc
   obtain ⟨q2,h2⟩:=iX q1
   obtain ⟨q3,h1⟩:=iX q2
   have:=Nat.eq_of_beq_eq_true q3
   subst this
   have h2:=Nat.eq_of_beq_eq_true h2
   have h3:=Nat.le_of_ble_eq_true h3
   obtain ⟨rfl,rfl,rfl⟩:=bK hh
   obtain ⟨b,c,rfl,e1,e2⟩:=hx.rptr_inv
   obtain ⟨a,c',e3,e4⟩:=m.rows i fw z' n2 g2 hi
   have e5:=e3.at_
   rw [e1] at e5
   cases e5
   have hle:=e3.le
   obtain ⟨hσ,ob,hb,cur,et,rfl,e7,e8⟩:=e4 b rfl (by omega)
   obtain ⟨h4,h5⟩:=hy.cells h1
   have hys:y.cells.toList.length=k:=by simp; omega
   have hone:∀ j,j < k→(y.cells.toList.getD j undef).oneCell'=true∧Rp G.σ (y.cells.toList.getD j undef) (nth e.cells j .dead).pure1:=by
    intro j hj
    have:=h5 j (by omega)
    have e9:y.cells.getD j undef=y.cells.toList.getD j undef:=by rw [bS]
    rw [e9] at this
    exact ⟨this.oneCell (lD h1 (by omega)) (nI h1),this.pure1⟩
   have hone':∀ u∈y.cells.toList,u.oneCell'=true:=by
    intro u hu
    obtain ⟨j,hj,rfl⟩:=List.mem_iff_getElem.1 hu
    have:=(hone j (by omega)).1
    rw [List.getD_eq_getElem?_getD,List.getElem?_eq_getElem hj] at this
    exact this
   have hq:(q+1) * z'≤c * z':=Nat.mul_le_mul_right _ (by omega)
   rw [Nat.add_mul] at hq
   have hrun:=run_storeCells_at (P:=P) b (q * z'+o) et y.cells.toList 0 cur w hb (by omega) hone'
   simp only [Nat.add_zero] at hrun
   have hsz:=nM cur (q * z'+o) y.cells.toList (by omega)
   have hget:=o6 cur (q * z'+o) y.cells.toList (by omega)
   generalize hc2:(cur.toList.take (q * z'+o)++y.cells.toList++cur.toList.drop (q * z'+o+y.cells.toList.length)).toArray=c2 at hrun hsz hget
   have hw:=i5 w b c2
   have hel:∀ p,p < n2→(gset g2 q (bif Nat.beq k z' then aV e.cells else eK (g2 q) o (aV e.cells)) p).length=z'∧∀ j,j < z'→(c2.getD (p * z'+j) undef).oneCell'=true∧Rp G.σ (c2.getD (p * z'+j) undef) (nth (gset g2 q (bif Nat.beq k z' then aV e.cells else eK (g2 q) o (aV e.cells)) p) j .dead).pure1:=by
    intro p hp
    by_cases hpq:p=q
    ·subst hpq
     have e9:gset g2 p (bif Nat.beq k z' then aV e.cells else eK (g2 p) o (aV e.cells)) p=(bif Nat.beq k z' then aV e.cells else eK (g2 p) o (aV e.cells)):=by
      unfold gset
      rw [Nat.beq_refl]
      rfl
     rw [e9]
     refine ⟨aAQ h2 (e8 p hp).1,fun j hj=>?_⟩
     rw [aBK h2 (e8 p hp).1 h3 hj,hget]
     by_cases hjj:o≤j∧j < o+k
     ·rw [if_pos hjj,if_pos ⟨by omega,by omega⟩,show p * z'+j - (p * z'+o)=j - o from by omega]
      obtain ⟨e10,e11⟩:=hone (j - o) (by omega)
      rw [b7]
      exact ⟨e10,e11⟩
     ·rw [if_neg hjj,if_neg (by omega)]
      exact (e8 p hp).2 j hj
    ·have e9:gset g2 q (bif Nat.beq k z' then aV e.cells else eK (g2 q) o (aV e.cells)) p=g2 p:=by
      unfold gset
      have:Nat.beq p q=false:=by
       cases hh:Nat.beq p q with
       | false=>rfl
       | true=>exact absurd (Nat.eq_of_beq_eq_true hh) hpq
      rw [this]
      rfl
     rw [e9]
     refine ⟨(e8 p hp).1,fun j hj=>?_⟩
     rw [hget]
     have hout:¬(q * z'+o≤p * z'+j∧p * z'+j < q * z'+o+y.cells.toList.length):=by
      rintro ⟨r1,r2⟩
      rcases Nat.lt_or_gt_of_ne hpq with r3 | r3
      ·have:=Nat.mul_le_mul_right z' (show p+1≤q from r3)
       rw [Nat.add_mul] at this
       omega
      ·have:=Nat.mul_le_mul_right z' (show q+1≤p from r3)
       rw [Nat.add_mul] at this
       omega
     rw [if_neg hout]
     exact (e8 p hp).2 j hj
   obtain ⟨m2,k2⟩:=m.setArr (w':=w.setRow b c2) hi e1 (z':=z') (n':=n2) (c':=c) (a':=some ⟨b,0,none⟩) (g':=gset g2 q (bif Nat.beq k z' then aV e.cells else eK (g2 q) o (aV e.cells)))
    hw.os hw.tape hw.output (Nat.le_of_eq hw.size.symm) (fun p _ hp=>hw.other p (hp b rfl (by omega))) (Nat.le_refl _) hle (fun _=>⟨rfl,rfl⟩) (fun _=>rfl)
    (fun hcp=>⟨b,rfl,.inl ⟨hcp,rfl⟩,_,setRow_heap w b cur c2 et _ hb,c2,et,rfl,by rw [hsz]; exact e7,hel⟩) id (id+nn)
   rw [Gh.same e1] at m2 k2
   refine ⟨w.setRow b c2,.skip,undef,G,?_,.inr ⟨rfl,rfl⟩,m2,Rd.dead _,k2⟩
   have hne:¬(y.cells.size≠k):=by omega
   simp only [Instr.storeAt,Instr.sureAddr,storeVar,Sem.run_bind,Sem.run_pure,Result.andThen_ok,dV hk,Sem.run_ite,if_neg hne,hrun]
  ·exact (aH hh).elim
 | _=>exact (aH hh).elim
theorem Mem.freeze1 (m:Mem F B np w0 ext σ0 G hp tk w) {i:Nat} {f:Bool} {cs:List D} (h:hp i=some (f,cs)) (hsl:(f || aQ cs)=true) (hnp:np≤i) :
  ∃ σ',Mem F B np w0 ext σ0 { G with σ:=σ' } (fun j=>bif Nat.beq j i then some (true,aV cs) else hp j) tk w∧SgLe G.σ σ'∧EAt σ' (G.β i) 0 (aV cs):=by
 cases f with
 | false =>
  have hsol:aQ cs=true:=by simpa using hsl
  obtain ⟨o1,h1,hh1,h4⟩:=m.vars i cs h (cK hsol)
  obtain ⟨c,e,rfl,h2,h3⟩:=hh1.cells hsol
  have hB:B≤G.β i:=by
   rcases m.own2 (G.β i) (.inl i) ⟨cs,h,.inl ⟨cK hsol,rfl⟩⟩ with h5 | ⟨_,id,h6,h7⟩
   ·exact h5
   ·cases h6; omega
  have m':=m.freezeVar i cs h hsol c e h1 hB
  have hle:SgLe G.σ (aT G.σ (G.β i) (fun o=>c[o]?)):=by
   intro b o v hv
   unfold aT
   rw [if_neg (fun hbb=>by rw [hbb,h4 o] at hv; cases hv)]
   exact hv
  refine ⟨_,m',hle,fun j hj=>?_⟩
  obtain ⟨v,e1,e2,e3⟩:=m'.froz i (aV cs) (by simp [Nat.beq_refl]) j hj
  refine ⟨v,by simpa using e1,?_⟩
  rw [← e3]
  exact e2
 | true =>
  refine ⟨G.σ,?_,SgLe.refl _,fun j hj=>?_⟩
  ·have hfz:=m.froz i cs h
   have hown:∀ b k,cL G (fun j=>bif Nat.beq j i then some (true,aV cs) else hp j) tk b k→cL G hp tk b k:=by
    intro b k hk
    cases k with
    | inl j =>
     obtain ⟨x,h1,h2⟩:=hk
     rcases a8 h1 with ⟨_,h3⟩ | ⟨_,h3⟩
     ·cases h3
     ·exact ⟨x,h3,h2⟩
    | inr j=>exact hk
   refine ⟨m.stab,m.old,m.os,m.tape,m.output,m.base,m.keep,?_,?_,?_,m.toks,fun b k k' h1 h2=>m.own1 b k k' (hown b k h1) (hown b k' h2),fun b k h1=>m.own2 b k (hown b k h1),?_,?_⟩
   ·intro j x hx hnx
    rcases a8 hx with ⟨_,h3⟩ | ⟨_,h3⟩
    ·cases h3
    ·exact m.vars j x h3 hnx
   ·intro j fw z n g hx
    rcases a8 hx with ⟨_,h3⟩ | ⟨_,h3⟩
    ·cases h3
    ·exact m.rows j fw z n g h3
   ·intro j x hx q hq
    rcases a8 hx with ⟨rfl,h3⟩ | ⟨_,h3⟩
    ·cases h3
     rw [aU] at hq
     obtain ⟨v,e1,e2,e3⟩:=hfz q hq
     refine ⟨v,e1,?_,?_⟩
     ·rw [bF]; exact e2.pure1
     ·rw [bF,b7]
    ·exact m.froz j x h3 q hq
   ·intro b r hr
    obtain ⟨h1,h2,h3⟩:=m.resv b r hr
    exact ⟨h1,fun k hk=>h2 k (hown b k hk),h3⟩
   ·intro j x va n ks vs hx hxd
    rcases a8 hx with ⟨_,h3⟩ | ⟨_,h3⟩
    ·cases h3
    ·exact m.lins j x va n ks vs h3 hxd
  ·rw [aU] at hj
   obtain ⟨v,e1,e2,_⟩:=m.froz i cs h j hj
   refine ⟨v,by simpa using e1,?_⟩
   rw [bF,b7]
   exact e2.pure1
theorem Rd.more {σ':Sg} {v:Value} {d:D} (h:SgLe G.σ σ') (hd:d.names 0 0=false) (r:Rd F G tk v d):Rd F { G with σ:=σ' } tk v d :=
 Rd.keep (G:=G) (G':={ G with σ:=σ' }) (lo:=0) (hi:=0) ⟨h,fun _ _=>rfl,fun _ z m _ e=>⟨z,m,e,Nat.le_refl _,fun _=>rfl⟩,fun _ _ _ _ e=>e⟩ hd r
theorem xU {σ:Sg} {b o:Nat} {l:List D} (h:EAt σ b o l) {len sz:Nat} (hl:len * sz≤l.length) (t:Tag) (c:Nat) (hc:len≤c) :
  Rp σ (.slice (some ⟨b,o,none⟩) len c) (.slice t sz len (fun j=>((aV l).drop (j * sz)).take sz)):=by
 have hlt:∀ i j,i < len→j < sz→i * sz+j < l.length:=by
  intro i j hi hj
  have:(i+1) * sz≤len * sz:=Nat.mul_le_mul_right _ hi
  rw [Nat.add_mul] at this
  omega
 refine .slice _ len c t sz _ b o (fun i j=>(σ b (o+i * sz+j)).getD undef) hc (fun _=>rfl) (fun i hi=>?_) (fun i j hi hj=>?_) (fun i j hi hj=>?_)
 ·have:(i+1) * sz≤len * sz:=Nat.mul_le_mul_right _ hi
  rw [Nat.add_mul] at this
  simp only [List.length_take,List.length_drop,aU]
  omega
 ·obtain ⟨v,h1,_⟩:=h (i * sz+j) (hlt i j hi hj)
  rw [← Nat.add_assoc] at h1
  rw [h1]
  rfl
 ·obtain ⟨v,h1,h2⟩:=h (i * sz+j) (hlt i j hi hj)
  rw [← Nat.add_assoc] at h1
  simp only [h1,Option.getD_some]
  rw [lB _ _ _ hj,iP,bF,b7]
  exact h2
theorem sU (l:List D):aV (aV l)=aV l:=by
 induction l with
 | nil=>rfl
 | cons d l ih=>simp [aV,b7,ih]
theorem wR (m:Mem F B np w0 ext σ0 G hp tk w) {x:Value} {d:D} (hx:Rd F G tk x d) (id nn:Nat) {t el:TypeId} {k len:Nat} (hu:P.underlying t=some (.array len el)) (hk:cT P el=some k) {v:D} {u:Upd}
  (hh:(bC (.sliceArr k len np) id hp tk [d]).holds v u):Does F B np w0 ext σ0 G hp tk (((Instr.sliceAt t x none none none).run P w).andThen fun v w=>.ok (.value v) w) id nn v u:=by
 cases d with
 | ptr i o =>
  simp only [bC] at hh
  split at hh
  ·rename_i f cs hi
   cases hsl:(f || aQ cs) with
   | false=>rw [hsl] at hh; exact (aH hh).elim
   | true =>
   rw [hsl] at hh
   simp only [Bool.not_true,cond_false] at hh
   cases hc:(Nat.ble (o+len * k) cs.length&&Nat.ble np i) with
   | false=>rw [hc] at hh; exact (aH hh).elim
   | true =>
    rw [hc] at hh
    obtain ⟨rfl,rfl⟩:=bH hh
    obtain ⟨h1,h2⟩:=iX hc
    have h1:=Nat.le_of_ble_eq_true h1
    have h2:=Nat.le_of_ble_eq_true h2
    have:=hx.ptr_inv
    subst this
    obtain ⟨σ',m',hle,hea⟩:=m.freeze1 hi hsl h2
    have hea':EAt σ' (G.β i) o ((aV cs).drop o):=by
     have:=hea.drop o
     simpa using this
    have hsl:=xU hea' (len:=len) (sz:=k) (by rw [List.length_drop,aU]; omega) .ro len (Nat.le_refl _)
    refine ⟨w,.value (.slice (some ⟨G.β i,o,none⟩) len len),_,_,?_,.inl rfl,m',.any (.cell (.pure ?_ trivial)),⟨hle,fun _ _=>rfl,fun _ z m _ e=>⟨z,m,e,Nat.le_refl _,fun _=>rfl⟩,fun _ _ _ _ e=>e⟩⟩
    ·simp [Instr.sliceAt,bQ hu,Instr.sureAddr,Instr.sliceBounds,dV hk,dT]
    ·have e1:(fun j=>List.take k (List.drop (j * k) (aV (List.drop o (aV cs)))))=fun j=>List.take k (List.drop (o+j * k) (aV cs)):=by
      funext j
      have:aV (List.drop o (aV cs))=List.drop o (aV cs):=by
       have:∀ (l:List D) (q:Nat),aV (List.drop q l)=List.drop q (aV l):=by
        intro l
        induction l with
        | nil=>intro q; simp [aV]
        | cons d l ih=>intro q; cases q with
         | zero=>rfl
         | succ q=>simpa [aV] using ih q
       rw [this,sU]
      rw [this,List.drop_drop]
     rw [e1] at hsl
     exact hsl
  ·exact (aH hh).elim
 | eptr l =>
  simp only [bC] at hh
  cases hc:Nat.ble (len * k) l.length with
  | false=>rw [hc] at hh; exact (aH hh).elim
  | true =>
   rw [hc] at hh
   obtain ⟨rfl,rfl⟩:=aK hh
   obtain ⟨b,o,rfl,h1⟩:=hx.eptr_inv
   refine Does.val m (.any (.cell (.pure (xU h1 (Nat.le_of_ble_eq_true hc) .ro len (Nat.le_refl _)) trivial))) ?_ id nn
   simp [Instr.sliceAt,bQ hu,Instr.sureAddr,Instr.sliceBounds,dV hk,dT]
 | _=>exact (aH hh).elim
end
section
variable {P:Program} {F:Nat→FuncId} {B np:Nat} {w0 w w':World} {ext:List Nat} {σ0:Og} {G G':Gh} {hp:Nat→Option (Bool×List D)} {tk tk':Nat→Option (Nat×Nat)}
theorem Rd.re {v:Value} {d:D} (h:Rd F G tk v d) (hd:∀ i o,d≠.ptr i o) (hs:aQ [d]=true) (hf:∀ f l,d≠.fn f l):Re G.σ v d.pure:=by
 cases h with
 | any h=>cases h with
  | cell h=>cases h with
   | pure h1 _ =>
    have:d.pure=d.pure1:=by cases d <;> first | rfl | (cases h1)
    rw [this]
    exact .pure h1.pure1 (b7 d).symm
   | ptr i o=>exact absurd rfl (hd i o)
   | eptr b o l h1=>exact .eptr b o l h1
   | fn f cap l _ _=>exact absurd rfl (hf f l)
   | mp _ _ _ _ _ _ _ _ _ _=>simp [aQ] at hs
  | agg cs l _ _=>simp [aQ] at hs
 | tup vs l _ _=>simp [aQ] at hs
 | mref id=>simp [aQ] at hs
 | msl _ _ _ _ _ _ _ _=>simp [aQ] at hs
 | rptr _ _ _ _ _ _ _ _=>simp [aQ] at hs
theorem lI:∀ (xs:List D) (vs:List Value) (ds:List D) (u:List (Nat×Bool×List D)) (hp hp1:Nat→Option (Bool×List D)) (G:Gh),freeze np hp xs=some (ds,u) →
  (∀ id f cs,hp id=some (f,cs)→hp1 id=some (f,cs)∨hp1 id=some (true,aV cs))→Mem F B np w0 ext σ0 G hp1 tk w→vs.length=xs.length→(∀ j,j < xs.length→Rd F G tk (vs.getD j undef) (nth xs j .dead)) →
  ∃ σ',Mem F B np w0 ext σ0 { G with σ:=σ' } (eV hp1 u) tk w∧SgLe G.σ σ'∧ds.length=xs.length∧∀ j,j < xs.length→Re σ' (vs.getD j undef) (nth ds j .dead)
 | [],vs,ds,u,hp,hp1,G,h,hh,m,hl,hr=>by
  cases h
  exact ⟨G.σ,m,SgLe.refl _,rfl,fun j hj=>by simp at hj⟩
 | d::xs,vs,ds,u,hp,hp1,G,h,hh,m,hl,hr=>by
  cases vs with
  | nil=>simp at hl
  | cons v vs =>
   have hr0:=hr 0 (by simp)
   simp only [nth,List.getD_cons_zero] at hr0
   have hrest:∀ j,j < xs.length→Rd F G tk (vs.getD j undef) (nth xs j .dead):=fun j hj=>hr (j+1) (by simpa using hj)
   have plain:(∀ i o,d≠.ptr i o)→(∀ f l,d≠.fn f l)→∀ ds' u',freeze np hp xs=some (ds',u')→aQ [d]=true→ds=d.pure::ds'→u=u' →
     ∃ σ',Mem F B np w0 ext σ0 { G with σ:=σ' } (eV hp1 u) tk w∧SgLe G.σ σ'∧ds.length=(d::xs).length∧∀ j,j < (d::xs).length→Re σ' ((v::vs).getD j undef) (nth ds j .dead):=by
    intro hp1' hf ds' u' he hs e1 e2
    subst e1
    subst e2
    obtain ⟨σ',m',hle,h2,h3⟩:=lI xs vs ds' _ hp hp1 G he hh m (by simpa using hl) hrest
    refine ⟨σ',m',hle,by simp [h2],fun j hj=>?_⟩
    cases j with
    | zero=>exact (hr0.re hp1' hs hf).mono hle
    | succ j=>exact h3 j (by simpa using hj)
   by_cases hptr:∃ i o,d=.ptr i o
   ·obtain ⟨i,o,rfl⟩:=hptr
    simp only [freeze] at h
    split at h
    ·rename_i f cs ds' u' h1 h2
     cases hnp:((f || aQ cs)&&Nat.ble np i) with
     | false=>rw [hnp] at h; cases h
     | true =>
      rw [hnp] at h
      simp only [cond_true,Option.some.injEq,Prod.mk.injEq] at h
      obtain ⟨rfl,rfl⟩:=h
      rw [Bool.and_eq_true] at hnp
      obtain ⟨hsl,hnp⟩:=hnp
      have hnp:=Nat.le_of_ble_eq_true hnp
      have hcell:∃ f' cs',hp1 i=some (f',cs')∧aV cs'=aV cs∧(f' || aQ cs')=true:=by
       rcases hh i f cs h1 with h3 | h3
       ·exact ⟨f,cs,h3,rfl,hsl⟩
       ·exact ⟨true,aV cs,h3,sU cs,rfl⟩
      obtain ⟨f',cs',h3,h4,hsl'⟩:=hcell
      obtain ⟨σ1,m1,hle1,hea⟩:=m.freeze1 h3 hsl' hnp
      rw [h4] at m1 hea
      obtain ⟨σ',m',hle,h5,h6⟩:=lI xs vs ds' u' hp _ { G with σ:=σ1 } h2 (fun id g cs0 hid=>by
       by_cases hii:id=i
       ·subst hii
        rw [h1] at hid
        cases hid
        exact .inr (by simp [Nat.beq_refl])
       ·have hb:Nat.beq id i=false:=by
         cases hq:Nat.beq id i with
         | false=>rfl
         | true=>exact absurd (Nat.eq_of_beq_eq_true hq) hii
        simp only [hb,cond_false]
        exact hh id g cs0 hid) m1 (by simpa using hl) (fun j hj=>by
         have:=hrest j hj
         refine Rd.keep (G:=G) (G':={ G with σ:=σ1 }) (lo:=0) (hi:=0) ⟨hle1,fun _ _=>rfl,fun _ z m _ e=>⟨z,m,e,Nat.le_refl _,fun _=>rfl⟩,fun _ _ _ _ e=>e⟩ ?_ this
         generalize nth xs j .dead=q
         cases q with
         | agg l=>exact fC fun j _=>b6 _
         | tup l=>exact fC fun j _=>b6 _
         | slice t z n g=>exact b6 (.slice t z n g)
         | _=>rfl)
      refine ⟨σ',m',hle1.trans hle,by simp [h5],fun j hj=>?_⟩
      cases j with
      | zero =>
       have hv:=hr0.ptr_inv
       simp only [nth,List.getD_cons_zero]
       rw [hv]
       refine .eptr (G.β i) o _ ?_
       have h7:=(hea.mono hle).drop o
       have e1:∀ (l:List D) (q:Nat),aV (List.drop q l)=List.drop q (aV l):=by
        intro l
        induction l with
        | nil=>intro q; simp [aV]
        | cons d l ih=>intro q; cases q with
         | zero=>rfl
         | succ q=>simpa [aV] using ih q
       rw [e1]
       simpa using h7
      | succ j=>exact h6 j (by simpa using hj)
    ·cases h
   ·by_cases hfn:∃ f l,d=.fn f l
    ·obtain ⟨f,l,rfl⟩:=hfn
     cases h
    ·have e:freeze np hp (d::xs)=match freeze np hp xs with
      | some (ds,u)=>bif aQ [d] then some (d.pure::ds,u) else none
      | none=>none:=by
      cases d <;> first | rfl | (exact absurd ⟨_,_,rfl⟩ hptr) | (exact absurd ⟨_,_,rfl⟩ hfn)
     rw [e] at h
     split at h
     ·rename_i ds' u' h2
      cases hs:aQ [d] with
      | false=>rw [hs] at h; cases h
      | true =>
       rw [hs] at h
       simp only [cond_true,Option.some.injEq,Prod.mk.injEq] at h
       exact plain (fun i o hd=>hptr ⟨i,o,hd⟩) (fun f l hd=>hfn ⟨f,l,hd⟩) ds' u' h2 hs h.1.symm h.2.symm
     ·cases h
theorem aBL (m:Mem F B np w0 ext σ0 G hp tk w) (xs:List D) (vs:Array Value) (hl:vs.size=xs.length) (hr:∀ j,j < xs.length→Rd F G tk (vs.getD j undef) (nth xs j .dead)) (id nn f:Nat) {v:D} {u:Upd}
  (hh:(bC (.mkfunc f np) id hp tk xs).holds v u):Does F B np w0 ext σ0 G hp tk (.ok (.value (.func (.func (F f)) #[] vs)) w) id nn v u:=by
 have e:bC (.mkfunc f np) id hp tk xs=match freeze np hp xs with
  | some (ds,u)=>.ok (.fn f ds) ⟨u,[]⟩
  | none=>.bad:=by cases xs <;> rfl
 rw [e] at hh
 split at hh
 ·rename_i ds u' h1
  obtain ⟨rfl,rfl⟩:=bH hh
  obtain ⟨σ',m',hle,h2,h3⟩:=lI xs vs.toList ds u' hp hp G h1 (fun id f cs h=>.inl h) m (by simpa using hl) (fun j hj=>by rw [← bS]; exact hr j hj)
  refine ⟨w,_,_,{ G with σ:=σ' },rfl,.inl rfl,m',.any (.cell (.fn f vs ds (by omega) fun j hj=>?_)),⟨hle,fun _ _=>rfl,fun _ z m _ e=>⟨z,m,e,Nat.le_refl _,fun _=>rfl⟩,fun _ _ _ _ e=>e⟩⟩
  rw [bS]
  exact h3 j (by omega)
 ·exact (aH hh).elim
theorem Mem.newStable (m:Mem F B np w0 ext σ0 G hp tk w) (c:Array Value) (e:TypeId) (fz:Nat×Nat) (n:Nat) (h1:∀ o,o < n→∃ v,c[o]? = some v∧v.oneCell'=true) :
  ∃ σ',Mem F B np w0 ext σ0 { G with σ:=σ' } hp tk (w.alloc (.cells c e fz))∧SgLe G.σ σ'∧(∀ o,o < n→σ' w.heap.size o=c[o]?)∧∀ o,n≤o→σ' w.heap.size o=none:=by
 refine ⟨aT G.σ w.heap.size (fun o=>if o < n then c[o]? else none),m.newBlock c e fz _ (fun o v h=>?_),f0 m _,fun o ho=>?_,fun o ho=>?_⟩
 ·split at h
  ·rename_i ho
   obtain ⟨v',h2,h3⟩:=h1 o ho
   rw [h2] at h
   cases h
   exact ⟨h3,h2⟩
  ·cases h
 ·simp [aT,ho]
 ·simp only [aT,if_true]
  rw [if_neg (by omega)]
theorem zC (w:World) (c:Array Value) (e:TypeId) (o:Nat):(w.alloc (.cells c e)).freeze ⟨w.heap.size,o,none⟩ 1=w.alloc (.cells c e (o,o+1)):=by
 simp only [World.freeze,World.alloc,Nat.one_ne_zero,if_false]
 congr 1
 apply Array.ext
 ·simp
 ·intro i h1 h2
  simp only [Array.getElem_modify,Array.getElem_push]
  simp only [Array.size_modify,Array.size_push] at h1
  by_cases hi:i=w.heap.size
  ·subst hi
   simp
  ·have:i < w.heap.size:=by omega
   simp [this,Ne.symm hi]
theorem aHI (m:Mem F B np w0 ext σ0 G hp tk w) {x:Value} {d:D} (hx:Rd F G tk x d) (id nn:Nat) {src dst e:TypeId} (hs:P.underlying src=some .string) (hd:P.underlying dst=some (.slice e)) (he:P.underlying e=some (.int .u8)) {v:D} {u:Upd}
  (hh:(bC (.conv .s2b) id hp tk [d]).holds v u):Does F B np w0 ext σ0 G hp tk (((convert src dst x).run P w).andThen fun v w=>.ok (.value v) w) id nn v u:=by
 cases d with
 | str s =>
  obtain ⟨rfl,rfl⟩:=aK hh
  have:=hx.str_inv
  subst this
  have hrun:=Lib.run_convert_string_bytes (P:=P) w src dst e s hs hd he
  have hcell:∀ o,o < s.size→((Lib.bytesCells w e s))[o]? = some (.int .u8 ((nth s.data.toList o 0).toNat:Int)):=by
   intro o ho
   have h1:o < (s.data.map fun b=>Value.int .u8 b.toNat).size:=by simpa using ho
   rw [Lib.bytesCells,Array.getElem?_append_left h1]
   have ho':o < s.data.size:=ho
   rw [dS _ _ (by simpa using ho')]
   simp only [Array.getElem?_map,Option.map_eq_some_iff]
   exact ⟨s.data[o],by simp [ho'],rfl⟩
  obtain ⟨σ',m',hle,h2,h3⟩:=m.drew.newStable (Lib.bytesCells w e s) e ((Lib.bytesCells w e s).size,(Lib.bytesCells w e s).size+1) s.size (fun o ho=>⟨_,hcell o ho,rfl⟩)
  refine ⟨_,_,_,{ G with σ:=σ' },?_,.inl rfl,m',.any (.cell (.pure (v:=.slice (some ⟨w.heap.size,0,none⟩) s.size (grownCap w s.size 0 e)) ?_ trivial)),⟨hle,fun _ _=>rfl,fun _ z m _ e=>⟨z,m,e,Nat.le_refl _,fun _=>rfl⟩,fun _ _ _ _ e=>e⟩⟩
  ·rw [hrun]
   simp only [Result.andThen_ok,Lib.bytesWorld]
   have:=zC w.drew (Lib.bytesCells w e s) e (Lib.bytesCells w e s).size
   rw [show w.drew.heap.size=w.heap.size from rfl] at this
   rw [this]
  ·refine .slice _ s.size _ .ro 1 (oV s) w.heap.size 0 (fun i _=>.int .u8 ((nth s.data.toList i 0).toNat:Int)) (grownCap_ge w s.size 0 e) (fun _=>rfl) (fun i hi=>rfl) (fun i j hi hj=>?_) (fun i j hi hj=>?_)
   ·have:j=0:=by omega
    subst this
    have h4:=h2 i hi
    rw [show w.drew.heap.size=w.heap.size from rfl] at h4
    simp only [Nat.zero_add,Nat.mul_one,Nat.add_zero]
    rw [h4]
    exact hcell i hi
   ·have:j=0:=by omega
    subst this
    exact .int _ _
 | _=>exact (aH hh).elim
end
section
variable {P:Program} {F:Nat→FuncId} {B np:Nat} {w0 w w':World} {ext:List Nat} {σ0:Og} {G G':Gh} {hp:Nat→Option (Bool×List D)} {tk tk':Nat→Option (Nat×Nat)}
theorem q9 {n:Int} (h1:0≤n) (h2:n≤9223372036854775807):IntKind.i64.wrap n=n:=IntWalk.i64_in n (by omega)
theorem xY {c b:Nat} (hb:0 < b) (h:c * b≤140737488355328):c≤140737488355328:=Nat.le_trans (Nat.le_mul_of_pos_right c hb) h
theorem aJM {z i j:Nat} (hj:j < z):(i * z+j) % z=j:=by
 rw [Nat.add_comm,Nat.add_mul_mod_self_right]
 exact Nat.mod_eq_of_lt hj
theorem Free.nohp {lo hi:Nat} (fr:Free hp tk lo hi) {i:Nat} (h:lo≤i∧i < hi):∀ id' f cs',hp id'=some (f,cs')→∀ j,j < cs'.length→(∃ z' m' g,nth cs' j .dead=.slice (.own i) z' m' g)→∃ z0 m0,tk i=some (z0,m0)∧False:=by
 intro id' f cs' h1 j hj ⟨z',m',g,he⟩
 have:=eN (fr.hp id' f cs' h1).2 hj
 rw [he] at this
 exact absurd h (cP this)
theorem rN {lo hi i:Nat} (h:lo≤i∧i < hi) {σ':Sg} (hle:SgLe G.σ σ') (v:Value) (e:Nat×Nat) :
  Keeps lo hi G { σ:=σ',β:=G.β,ρ:=fun j=>if j=i then v else G.ρ j,η:=G.η,γ:=G.γ } tk (fun j=>bif Nat.beq j i then some e else tk j):=by
 refine ⟨hle,fun _ _=>rfl,fun j z m hj hz=>?_,fun _ _ _ _ e=>e⟩
 rcases a8 hz with ⟨rfl,_⟩ | ⟨h1,h2⟩
 ·exact absurd h hj
 ·exact ⟨z,m,h2,Nat.le_refl _,fun _=>by simp only; rw [if_neg h1]⟩
theorem uC (m:Mem F B np w0 ext σ0 G hp tk w) {x y:Value} {d e:D} (hx:Rd F G tk x d) (hy:Rd F G tk y e) {id nn:Nat} (hn:0 < nn) (fr:Free hp tk id (id+nn)) {t el:TypeId} {i:TypeInfo} {z:Value} {ds:List D}
  (hu:P.underlying t=some (.slice el)) (hi:P.info? el=some i) (hz:i.zero=some z) (hds:dM z.cells.toList=some ds) (hb:0 < i.bytes) (hsz:0 < i.size) (hlen:ds.length=i.size) {v:D} {u:Upd}
  (hh:(bC (.makeSlice ds i.bytes) id hp tk [d,e]).holds v u):Does F B np w0 ext σ0 G hp tk (((Instr.makeSlice t x y).run P w).andThen fun v w=>.ok (.value v) w) id nn v u:=by
 cases d with
 | int k1 l =>
  cases e with
  | int k2 c =>
   simp only [bC] at hh
   cases hs:aQ ds with
   | false=>rw [hs] at hh; exact (aH hh).elim
   | true =>
    rw [hs] at hh
    simp only [Bool.not_true,cond_false] at hh
    obtain ⟨⟨h1,h2,h3⟩,rfl,rfl⟩:=bK hh
    have:=hx.int_inv; subst this
    have:=hy.int_inv; subst this
    unfold nX at h3
    have hc:=xY hb h3
    have hl:z.cells.size=i.size:=by have:=gO hds; simp at this; omega
    have w1:IntKind.i64.wrap l=l:=q9 h1 (by omega)
    have w2:IntKind.i64.wrap c=c:=q9 (by omega) (by omega)
    have hbytes:¬((i.bytes:Int) * c > 2 ^ 48):=by
     have:(i.bytes:Int) * c=((c.toNat * i.bytes:Nat):Int):=by
      rw [Int.natCast_mul,Int.mul_comm]
      congr 1
      omega
     omega
    have hroom:¬(roomBytes < c.toNat * i.bytes):=by unfold roomBytes; omega
    have hrc:=(eI (F:=F) (G:=G) (tk:=tk) hds).2
    have hone:∀ v∈z.cells.toList,v.oneCell'=true:=by
     intro v hv
     obtain ⟨j,hj,rfl⟩:=List.mem_iff_getElem.1 hv
     have hj':j < ds.length:=by have:=gO hds; omega
     have:=(hrc j hj').oneCell (lD hs hj') (nI hs)
     have hj2:j < z.cells.size:=by simpa using hj
     simpa [List.getD,hj2] using this
    obtain ⟨cells,hcells⟩:∃ cells,cells=(Array.range (c.toNat * i.size)).map (fun q=>z.cells[q % z.cells.size]!):=⟨_,rfl⟩
    have hcz:cells.size=c.toNat * i.size:=by rw [hcells]; simp
    have hget:∀ q,q < c.toNat * i.size→cells[q]? = some (z.cells.toList.getD (q % i.size) undef):=by
     intro q hq
     have hm:q % i.size < z.cells.size:=by rw [hl]; exact Nat.mod_lt _ hsz
     rw [hcells]
     simp [hq,hl,List.getD,hm]
     rw [getElem!_pos z.cells (q % i.size) hm,Array.getElem?_eq_getElem hm]
     rfl
    have hlc:l.toNat * i.size≤c.toNat * i.size:=Nat.mul_le_mul_right _ (by omega)
    obtain ⟨σ',m',hle,h4,h5⟩:=m.newStable cells el (0,0) (l.toNat * i.size) (fun o ho=>⟨_,hget o (by omega),by
     have hm : o % i.size < z.cells.toList.length := by have : z.cells.toList.length = z.cells.size := by simp
                                                        rw [this,hl]; exact Nat.mod_lt _ hsz
     have hm2:o % i.size < z.cells.size:=by simpa using hm
     have:z.cells.toList.getD (o % i.size) undef=z.cells.toList[o % i.size]:=by simp [List.getD,hm2]
     rw [this]
     exact hone _ (List.getElem_mem hm)⟩)
    have m2:=m'.addTok id i.size l.toNat c.toNat (some ⟨w.heap.size,0,none⟩) (by omega) (fun hlt=>⟨w.heap.size,cells,el,rfl,heap_alloc_new w _,hcz,h5,fun k hk hown=>by
     have:=m.own_lt (k:=k) (b:=w.heap.size) (by cases k <;> exact hown)
     omega,m.base,m.resv_new⟩) (fun id' f cs' h6 j hj h7=>by
      obtain ⟨_,_,_,hF⟩:=fr.nohp ⟨Nat.le_refl _,by omega⟩ id' f cs' h6 j hj h7
      exact hF.elim)
    rw [hlen]
    refine ⟨_,.value (.slice (some ⟨w.heap.size,0,none⟩) l.toNat c.toNat),_,_,?_,.inl rfl,m2,.any (.cell (.pure ?_ ?_)),rN ⟨Nat.le_refl _,by omega⟩ hle _ _⟩
    ·have hor:¬(c < 0):=by omega
     have hor2:¬(l < 0):=by omega
     have hor3:¬(c < l):=by omega
     have hti:∀ w:World,(typeInfo el).run P w=.ok i w:=fun w=>by simp [typeInfo,program,Sem.run,hi]
     have hso:∀ w:World,(sizeOf el).run P w=.ok i.size w:=fun w=>by simp [sizeOf,hti]
     have hb1:decide ((2:Int) ^ 48 < i.bytes * c)=false:=by simpa using hbytes
     simp only [Instr.makeSlice,Sem.run_bind,bQ hu,Result.andThen_ok,asInt,asIntOf,Sem.run_pure,hti,w1,w2]
     simp only [gt_iff_lt,hb1,hor,hor2,hor3,decide_false,Bool.or_false,Bool.false_eq_true,if_false,Bool.or_self,or_self,askRoom,hroom,Sem.run_pure,Result.andThen_ok,Sem.run_bind,hso,newRow,run_newObj,Sem.run_ite]
     by_cases h0:c.toNat * i.size=0
     ·rw [if_pos h0]
      simp [hcells,h0,World.alloc,-World.alloc_eq]
      congr 2
      apply Array.ext
      ·simp
      ·intro i h
       simp at h
     ·rw [if_neg h0]
      have hzv:(zeroValue el).run P w=.ok z w:=by simp [zeroValue,typeInfo,program,Sem.run,hi,hz]
      simp only [hzv,Result.andThen_ok,← hcells]
      rfl
    ·refine .slice _ l.toNat c.toNat (.own id) i.size _ w.heap.size 0 (fun _ j=>z.cells.toList.getD j undef) (by omega) (fun _=>rfl) (fun q _=>hlen) (fun q j hq hj=>?_) (fun q j hq hj=>?_)
     ·have hlt:q * i.size+j < l.toNat * i.size:=by
       have:(q+1) * i.size≤l.toNat * i.size:=Nat.mul_le_mul_right _ hq
       rw [Nat.add_mul] at this
       omega
      show σ' w.heap.size (0+q * i.size+j)=_
      rw [Nat.zero_add,h4 _ hlt,hget _ (by omega),aJM hj]
     ·exact ((hrc j (by omega)).pure1).mono hle
    ·intro z' m' h6
     rcases a8 h6 with ⟨_,h7⟩ | ⟨h7,_⟩
     ·cases h7
      exact ⟨Nat.le_refl _,fun _=>by simp⟩
     ·exact absurd rfl h7
  | _=>exact (aH hh).elim
 | _=>cases e <;> exact (aH hh).elim
end
end Go.Abs
