/- The abstract machine and its soundness. -/
import Derived.Lib.ConvBytes
import Derived.WalkKit
import GoSem.Core.Region
import GoSem.Core.Utf8
import GoSem.Core.View
import GoSem.Machine.Return
import GoSem.Op.String
set_option linter.unusedVariables false
set_option linter.unusedSimpArgs false
set_option linter.unusedSectionVars false
namespace Go.Abs
inductive Tag where
 | ro
 | full
 | own (i:Nat)
inductive D where
 | int (k:IntKind) (n:Int)
 | bool (b:Bool)
 | str (s:ByteArray)
 | agg (l:List D)
 | tup (l:List D)
 | slice (t:Tag) (z n:Nat) (g:Nat→List D)
 | ptr (id off:Nat)
 | eptr (l:List D)
 | nilp
 | fn (f:Nat) (cap:List D)
 /-- one of the two bools -/
 | ubool
 /-- a map's entries: n of them,keys (texts) and values; are these aggregates? -/
 | mp (va:Bool) (n:Nat) (ks:Nat→ByteArray) (vs:Nat→List D)
 /-- a map that is not nil: the variable that holds its entries -/
 | mref (id:Nat)
 /-- a result: a pointer to a new variable of these cells -/
 | newp (l:List D)
 /-- a row: n elements of z cells that may be written; w: may it be appended to? -/
 | arr (w:Bool) (z n:Nat) (g:Nat→List D)
 /-- all of the row 'id',while it has n elements -/
 | msl (id z n:Nat)
 /-- into element i of the row 'id' -/
 | rptr (id z n i off:Nat)
 /-- a map that is nil -/
 | nilm
 /-- m maps of ours behind a pointer; c: how often they were changed; from the map va on values are aggregates; is it nil,its entries -/
 | obj (m c va:Nat) (nl:Nat→Bool) (n:Nat→Nat) (ks:Nat→Nat→ByteArray) (vs:Nat→Nat→List D)
 /-- the map j of the object id; b: it was nil -/
 | oref (id j:Nat) (b:Bool)
 /-- m maps of the object id,from off on -/
 | oagg (id off m:Nat) (nl:Nat→Bool)
 /-- a slice of n of the object's maps,from off on -/
 | osl (id off n:Nat)
 /-- a walk over the map j of the object i,begun at its change c; who was told of; the last one -/
 | mit (i j:Nat) (b:Bool) (c:Nat) (k:Nat→Bool) (q:Option Nat)
 /-- what maps.Keys has given for the map j of the object i (b: it was nil): a closure of the function g -/
 | kseq (g i j:Nat) (b:Bool)
 | dead
def nth {α:Type}:List α→Nat→α→α
 | [],_,d=>d
 | a::_,0,_=>a
 | _::l,i+1,d=>nth l i d
def upd {α:Type}:List α→Nat→α→List α
 | [],_,_=>[]
 | _::l,0,b=>b::l
 | a::l,i+1,b=>a::upd l i b
def ag {α:Type}:List (Nat×α)→Nat→Option α
 | [],_=>none
 | (j,a)::l,i=>bif Nat.beq i j then some a else ag l i
def D.cells:D→List D
 | .agg l=>l
 | d=>[d]
def mkv (isAgg:Bool) (l:List D):D:=bif isAgg then .agg l else nth l 0 .dead
def D.ro1:D→D
 | .slice (.own _) z n g=>.slice .ro z n g
 | d=>d
def ros:List D→List D
 | []=>[]
 | d::l=>d.ro1::ros l
def D.ro:D→D
 | .agg l=>.agg (ros l)
 | d=>d.ro1
def D.pure1:D→D
 | .int k n=>.int k n
 | .bool b=>.bool b
 | .str s=>.str s
 | .slice _ z n g=>.slice .ro z n g
 | .nilp=>.nilp
 | .nilm=>.nilm
 | _=>.dead
def aM:List D→List D
 | []=>[]
 | d::l=>d.pure1::aM l
def D.pure:D→D
 | .agg l=>.agg (aM l)
 | .fn f l=>.fn f l
 | .eptr l=>.eptr l
 | d=>d.pure1
def dZ:List D→Nat→List D→List D
 | cs,_,[]=>cs
 | cs,o,d::ds=>dZ (upd cs o d) (o+1) ds
def gO (g:Nat→List D) (n:Nat) (h:Nat→List D):Nat→List D:=fun i=>bif Nat.blt i n then g i else h (i - n)
def aFH (g:Nat→List D) (lo:Nat):Nat→List D:=fun i=>g (i+lo)
def d8:Nat→List D:=fun _=>[]
def oQ (s:ByteArray):Nat→List D:=fun i=>[.int .u8 ((nth s.data.toList i 0).toNat:Int)]
def rF:List D→UInt8
 | .int _ n::_=>UInt8.ofNat n.toNat
 | _=>0
def kB (g:Nat→List D):Nat→List UInt8
 | 0=>[]
 | n+1=>kB g n++[rF (g n)]
def wB (n:Nat) (g:Nat→List D):ByteArray:=⟨(kB g n).toArray⟩
def aHF (n:Nat) (g:Nat→List D):Prop:=∀ i,i < n→∃ b:UInt8,g i=[.int .u8 (b.toNat:Int)]
structure St where
 fr:List D
 /-- variables: does it change no more?,its cells -/
 hp:Nat→Option (Bool×List D)
 /-- tokens: an element's cells,how many elements -/
 tk:Nat→Option (Nat×Nat)
inductive AX where
 | t (i:Nat)
 | c (d:D)
def AX.ev (fr:List D):AX→D
 | .t i=>nth fr i .dead
 | .c d=>d
def evs (fr:List D):List AX→List D
 | []=>[]
 | x::l=>x.ev fr::evs fr l
inductive Cv where
 | int (k:IntKind)
 | s2b
 | b2s
 | same
 /-- a rune's text -/
 | r2s
inductive AOp where
 | move
 | pick
 | alloc (cells:List D)
 | box
 | load (isAgg:Bool) (n:Nat)
 | store (n:Nat)
 | fieldAddr (off:Nat)
 | field (isAgg:Bool) (off n:Nat)
 | indexAddr (sz:Nat) (arr:Option Nat)
 | indexStr
 | indexArr (isAgg:Bool) (sz len:Nat)
 | build (zero:List D) (parts:List (Nat×Nat))
 | buildSlice (sz len:Nat) (zero:List D) (parts:List (Nat×Nat))
 | sliceSl (sz:Nat) (lo hi mx:Bool)
 | sliceStr (lo hi:Bool)
 | sliceArr (sz len np:Nat)
 | len (str:Bool)
 | append (sz bytes:Nat)
 | bin (op:BinOp)
 | binB (neg:Bool)
 | eqAgg (neg:Bool) (codes:List Nat)
 | un (op:UnOp)
 | conv (c:Cv)
 | mkfunc (f np:Nat)
 /-- p: may there be pointers among the arguments? -/
 | call (p:Bool) (f:Nat)
 | callv (p:Bool)
 | extract (i:Nat)
 | makeSlice (zero:List D) (bytes:Nat)
 | nilCheck
 | mnmx (isMax:Bool)
 | nilSl (sz:Nat)
 | iterStr
 | nextStr
 /-- is it nil: p: a pointer; else a slice -/
 | isNil (p neg:Bool)
 /-- maps: a new one; how many entries there are; an entry is set; one is looked for (zero: what there is if there is none) -/
 | mkMap (va lin:Bool)
 | mapLen
 | mapSet
 | mapGet (comma va:Bool) (zero:List D)
 | mapDel
 /-- a walk over a map; its next entry; the entry that it stands at -/
 | mapWalk
 | mapNext
 | mapEntry
 | isNilM (neg:Bool)
 /-- a slice of an object's maps: of how many -/
 | sliceObj (len:Nat) (lo hi:Bool)
 /-- in a map of maps,by two texts: a map is looked for; a new one is put -/
 | famGet
 | famSet
 /-- maps.Keys (its closure is the function g); slices.Sorted of what it gave -/
 | mapKeys (g:Nat)
 | keysSort (g:Nat)
 /-- what is not looked at: it must not be come to -/
 | stuck
structure AO where
 dst:Option Nat
 id:Nat
 op:AOp
 args:List AX
 guard:Option (Nat×Bool)
structure Tm where
 fr:List D
 hp:List (Nat×Bool×List D)
 tk:List (Nat×Nat×Nat)
inductive AC:Type 1 where
 | skip
 | region (ops:List AO)
 /-- operations in any of these orders -/
 | orders (l:List (List AO))
 | seq (a b:AC)
 | cond (c:AX) (t e:AC)
 | block (id:Nat) (c:AC)
 /-- u: how many rounds it is unrolled for; at each round's head: slots that are dead,variables and tokens that are kept; the numbers from lo up to hi are the body's own -/
 | loop (u:Nat) (kill mD kL:List Nat) (lo hi:Nat) (c:AC)
 /-- each round's head is told as S x -/
 | loopT (α:Type) (S:α→Tm) (lo hi:Nat) (c:AC)
 /-- here the state is told anew -/
 | cut (α:Type) (S:α→Tm)
 /-- the one,then the other; between them the state is told anew,and what is so of it is all that is known -/
 | joinT (α:Type) (S:α→Tm) (a b:AC)
 /-- a slice whose length is its capacity,in cell j of the variable id: token i is its end from here on -/
 | adopt (i id j:Nat)
 /-- slot t holds a slice without elements whose end is ours: it is the row i from here on -/
 | thaw (i t:Nat)
 /-- slot t's row changes no more -/
 | frz (t:Nat)
 /-- slot t's variable,all of whose cells are maps that are nil,is an object from here on -/
 | toObj (np va t:Nat)
 /-- what is not looked at -/
 | stuck
 | exit (id:Nat)
 | ret
inductive AE where
 | normal
 | exit (id:Nat)
 | ret
abbrev bA:=List D→List (List D)→(List D→List (List D)→Prop)→Prop
abbrev Env:=List (Nat×bA)
def D.names1 (lo hi:Nat):D→Bool
 | .ptr j _=>Nat.ble lo j&&Nat.blt j hi
 | .mref j=>Nat.ble lo j&&Nat.blt j hi
 | .msl j _ _=>Nat.ble lo j&&Nat.blt j hi
 | .rptr j _ _ _ _=>Nat.ble lo j&&Nat.blt j hi
 | .oref j _ _=>Nat.ble lo j&&Nat.blt j hi
 | .oagg j _ _ _=>Nat.ble lo j&&Nat.blt j hi
 | .osl j _ _=>Nat.ble lo j&&Nat.blt j hi
 | .mit j _ _ _ _ _=>Nat.ble lo j&&Nat.blt j hi
 | .kseq _ j _ _=>Nat.ble lo j&&Nat.blt j hi
 | .slice (.own j) _ _ _=>Nat.ble lo j&&Nat.blt j hi
 | _=>false
def names (lo hi:Nat):List D→Bool
 | []=>false
 | d::l=>bif d.names1 lo hi then true else names lo hi l
def D.names (lo hi:Nat):D→Bool
 | .agg l=>Abs.names lo hi l
 | .tup l=>Abs.names lo hi l
 | d=>d.names1 lo hi
def jG (lo hi:Nat):List D→Bool
 | []=>false
 | d::l=>bif d.names lo hi then true else jG lo hi l
structure Upd where
 h:List (Nat×Bool×List D)
 t:List (Nat×Nat×Nat)
def Upd.none:Upd:=⟨[],[]⟩
def bX (hp:Nat→Option (Bool×List D)):List (Nat×Bool×List D)→Nat→Option (Bool×List D)
 | []=>hp
 | (i,e)::l=>bX (fun j=>bif Nat.beq j i then some e else hp j) l
def cF (tk:Nat→Option (Nat×Nat)):List (Nat×Nat×Nat)→Nat→Option (Nat×Nat)
 | []=>tk
 | (i,e)::l=>cF (fun j=>bif Nat.beq j i then some e else tk j) l
def Br (b:Bool) (p q:Prop):Prop :=
 match b with
 | true=>p
 | false=>q
inductive Out where
 | bad
 | ok (v:D) (u:Upd)
 | ask (p:Prop) (v:D) (u:Upd)
 | chk (b:Bool) (v:D) (u:Upd)
 | alt (b:Bool) (v:D) (u:Upd) (v':D) (u':Upd)
def Out.then (o:Out) (k:D→Upd→Prop):Prop :=
 match o with
 | .bad=>False
 | .ok v u=>k v u
 | .ask p v u=>p∧k v u
 | .chk b v u=>Br b (k v u) False
 | .alt b v u v' u'=>Br b (k v u) (k v' u')
def Out.val (v:D):Out:=.ok v Upd.none
def aI:List D→Bool
 | []=>true
 | .dead::_=>false
 | .agg _::_=>false
 | .tup _::_=>false
 | .mp _ _ _ _::_=>false
 | .mref _::_=>false
 | .newp _::_=>false
 | .arr _ _ _ _::_=>false
 | .msl _ _ _::_=>false
 | .rptr _ _ _ _ _::_=>false
 | .obj _ _ _ _ _ _ _::_=>false
 | .oref _ _ _::_=>false
 | .oagg _ _ _ _::_=>false
 | .osl _ _ _::_=>false
 | .mit _ _ _ _ _ _::_=>false
 | .kseq _ _ _ _::_=>false
 | _::l=>aI l
def fill:List D→List (Nat×Nat)→List D→Option (List D)
 | cells,[],[]=>some cells
 | cells,(off,size)::rest,x::xs =>
  bif aI x.cells&&Nat.beq x.cells.length size&&Nat.ble (off+size) cells.length then fill (dZ cells off x.cells) rest xs else none
 | _,_,_=>none
def rep:Nat→List D→List D
 | 0,_=>[]
 | n+1,z=>z++rep n z
def oS (bytes:Nat):Prop:=bytes≤140737488355328
def kD:IntKind→IntKind→Bool
 | .i8,.i8=>true
 | .i16,.i16=>true
 | .i32,.i32=>true
 | .i64,.i64=>true
 | .u8,.u8=>true
 | .u16,.u16=>true
 | .u32,.u32=>true
 | .u64,.u64=>true
 | _,_=>false
def eqc:Nat→D→D→Option Bool
 | 0,.int k a,.int k' b=>bif kD k k' then some (a==b) else none
 | 1,.bool a,.bool b=>some (a==b)
 | 2,.str a,.str b=>some (a.toList==b.toList)
 | _,_,_=>none
def aFR:List Nat→List D→List D→Option Bool
 | [],[],[]=>some true
 | [c],[a],[b]=>eqc c a b
 | c::cs,a::l,b::m=>match eqc c a b,aFR cs l m with
  | some x,some y=>some (x&&y)
  | _,_=>none
 | _,_,_=>none
def mpF (ks:Nat→ByteArray) (key:ByteArray):Nat→Nat
 | 0=>0
 | n+1=>if mpF ks key n < n then mpF ks key n else if ks n=key then n else n+1
def mpN (ks:Nat→ByteArray) (key:ByteArray) (n:Nat):Nat:=if mpF ks key n < n then n else n+1
def gD (ks:Nat→ByteArray) (key:ByteArray) (n:Nat):Nat→ByteArray:=fun i=>if i=mpF ks key n then key else ks i
def gE (ks:Nat→ByteArray) (vs:Nat→List D) (key:ByteArray) (val:List D) (n:Nat):Nat→List D:=fun i=>if i=mpF ks key n then val else vs i
def D.isAgg:D→Bool
 | .agg _=>true
 | _=>false
def eqBB:Bool→Bool→Bool
 | true,true=>true
 | false,false=>true
 | _,_=>false
def aET:List D→Bool
 | []=>false
 | .slice _ _ _ _::_=>true
 | _::l=>aET l
def iJ:List D→Nat→List D
 | [],_=>[]
 | .slice _ z n g::l,i=>.slice (.own i) z n g::iJ l (i+1)
 | d::l,i=>d.pure1::iJ l (i+1)
def iB:List D→Nat→List (Nat×Nat×Nat)
 | [],_=>[]
 | .slice _ z n _::l,i=>(i,z,n)::iB l (i+1)
 | _::l,i=>iB l (i+1)
def qL (tk:Nat→Option (Nat×Nat)):List D→Option (List (Nat×Nat×Nat)×Prop)
 | []=>some ([],True)
 | .slice (.own j) z n _::l=>match tk j,qL tk l with
  | some (z',n'),some ([],p)=>bif Nat.beq z' z then some ([(j,z,n+1)],n'=n∧p) else none
  | _,_=>none
 | .slice .full _ _ _::l=>qL tk l
 | .slice .ro _ _ _::_=>none
 | _::l=>qL tk l
def wU (tk:Nat→Option (Nat×Nat)) (i:Nat) (k:ByteArray) (v:D):Option (Bool×List D)→Out
 | some (false,[.dead,.mp va n ks vs])=>bif eqBB v.isAgg va&&aI v.cells then
   .ok .dead ⟨[(i,false,[.dead,.mp va (mpN ks k n) (gD ks k n) (gE ks vs k (aM v.cells) n)])],[]⟩ else .bad
 | some (false,[.str k',.mp true n ks vs])=>bif v.isAgg&&aI v.cells then
   (match qL tk v.cells with
   | some (u,p)=>.ask (k'=k∧p) .dead ⟨[(i,false,[.nilp,.mp true (mpN ks k n) (gD ks k n) (gE ks vs k (aM v.cells) n)])],u⟩
   | none=>.bad) else .bad
 | _=>.bad
def v6:Option (Bool×List D)→Out
 | some (false,[_,.mp _ n _ _])=>.val (.int .i64 n)
 | _=>.bad
def gU (comma va ok:Bool) (l:List D):D:=bif comma then .tup [mkv va (aM l),.bool ok] else mkv va (aM l)
def wL (comma va:Bool) (zero:List D) (id i:Nat) (k:ByteArray):Option (Bool×List D)→Out
 | some (false,[.dead,.mp va' n ks vs])=>bif eqBB va' va then .alt (decide (mpF ks k n < n)) (gU comma va true (vs (mpF ks k n))) Upd.none (gU comma va false zero) Upd.none else .bad
 | some (false,[.nilp,.mp true n ks vs]) =>
  bif va&&!comma&&aET zero&&Nat.beq (vs (mpF ks k n)).length zero.length&&Nat.ble (iB (vs (mpF ks k n)) (id+1)).length 1 then
   .alt (decide (mpF ks k n < n)) (.agg (iJ (vs (mpF ks k n)) (id+1))) ⟨[(i,false,[.str k,.mp true n ks vs])],iB (vs (mpF ks k n)) (id+1)⟩ (.agg zero) ⟨[(i,false,[.str k,.mp true n ks vs])],[]⟩ else .bad
 | _=>.bad
def zL (op:BinOp) (k:IntKind) (x y:Int):Out :=
 match op with
 | .add=>.val (.int k (k.wrap (x+y)))
 | .sub=>.val (.int k (k.wrap (x - y)))
 | .mul=>.val (.int k (k.wrap (x * y)))
 | .quo=>.chk (!(y==0)) (.int k (k.wrap (x.tdiv y))) Upd.none
 | .rem=>.chk (!(y==0)) (.int k (x.tmod y)) Upd.none
 | .and=>.val (.int k (k.wrap (BitVec.ofInt k.bits x &&& BitVec.ofInt k.bits y).toNat))
 | .or=>.val (.int k (k.wrap (BitVec.ofInt k.bits x ||| BitVec.ofInt k.bits y).toNat))
 | .xor=>.val (.int k (k.wrap (BitVec.ofInt k.bits x ^^^ BitVec.ofInt k.bits y).toNat))
 | .eql=>.val (.bool (x==y))
 | .neq=>.val (.bool (x != y))
 | .lss=>.val (.bool (decide (x < y)))
 | .leq=>.val (.bool (decide (x≤y)))
 | .gtr=>.val (.bool (decide (y < x)))
 | .geq=>.val (.bool (decide (y≤x)))
 | _=>.bad
def vM (op:BinOp) (k:IntKind) (x y:Int):Out :=
 match op with
 | .shl=>.chk (decide (0≤y)) (.int k (k.wrap (x * 2 ^ min y.toNat k.bits))) Upd.none
 | .shr=>.chk (decide (0≤y)) (.int k (x.fdiv (2 ^ min y.toNat k.bits))) Upd.none
 | _=>.bad
def zY (op:BinOp) (x y:ByteArray):Out :=
 match op with
 | .add=>.chk (Nat.ble (x.size+y.size) 9223372036854775807) (.str (x++y)) Upd.none
 | .eql=>.val (.bool (x.toList==y.toList))
 | .neq=>.val (.bool (!(x.toList==y.toList)))
 | .lss=>.val (.bool (Op.bytesLess x.toList y.toList))
 | .leq=>.val (.bool (Op.bytesLess x.toList y.toList || x.toList==y.toList))
 | .gtr=>.val (.bool (!(Op.bytesLess x.toList y.toList || x.toList==y.toList)))
 | .geq=>.val (.bool (!(Op.bytesLess x.toList y.toList)))
 | _=>.bad
def nV:BinOp→Bool
 | .shl=>true
 | .shr=>true
 | _=>false
def bin (op:BinOp) (x y:D):Out :=
 match x,y with
 | .int k a,.int k' b=>bif nV op then vM op k a b else bif kD k k' then zL op k a b else .bad
 | .str a,.str b=>zY op a b
 | _,_=>.bad
def un (op:UnOp) (x:D):Out :=
 match op,x with
 | .not,.bool b=>.val (.bool (!b))
 | .neg,.int k n=>.val (.int k (k.wrap (0 - n)))
 | _,_=>.bad
def cC (isAgg:Bool) (n:Nat) (l:List D):Out :=
 bif Nat.ble n l.length then .val (mkv isAgg (l.take n)) else .bad
def cJ:List D→Nat→List D
 | [],_=>[]
 | .slice (.own _) z n g::l,i=>.slice (.own i) z n g::cJ l (i+1)
 | d::l,i=>d::cJ l (i+1)
def aW:List D→Nat→List (Nat×Nat×Nat)
 | [],_=>[]
 | .slice (.own _) z n _::l,i=>(i,z,n)::aW l (i+1)
 | _::l,i=>aW l (i+1)
def freeze (np:Nat) (hp:Nat→Option (Bool×List D)):List D→Option (List D×List (Nat×Bool×List D))
 | []=>some ([],[])
 | .ptr id off::l=>match hp id,freeze np hp l with
  | some (f,cs),some (ds,u)=>bif (f || aI cs)&&Nat.ble np id then some (.eptr (aM (cs.drop off))::ds,(id,true,aM cs)::u) else none
  | _,_=>none
 | .fn _ _::_=>none
 | d::l=>match freeze np hp l with
  | some (ds,u)=>bif aI [d] then some (d.pure::ds,u) else none
  | none=>none
def tD (has:Bool) (l:List D) (dflt:Int):Option (Int×List D) :=
 bif has then (match l with
  | .int _ n::r=>some (n,r)
  | _=>none) else some (dflt,l)
def dF (id sz bytes:Nat) (tk:Nat→Option (Nat×Nat)) (t:Tag) (z' n:Nat) (g:Nat→List D) (m:Nat) (h:Nat→List D):Out :=
 bif !(Nat.beq z' sz) then .bad else
 match t with
 | .own i=>match tk i with
  | some (z,n')=>bif Nat.beq z sz then .ask (n'=n∧oS ((n+m) * bytes)) (.slice (.own i) sz (n+m) (gO g n h)) ⟨[],[(i,sz,n+m)]⟩ else .bad
  | none=>.bad
 | .full=>.ask (oS ((n+m) * bytes)) (.slice (.own id) sz (n+m) (gO g n h)) ⟨[],[(id,sz,n+m)]⟩
 | .ro=>.bad
def q6 (i:Nat):Option (Bool×List D)→Out
 | some (false,[.dead,.str s,.int .i64 p])=>.alt (decide (0≤p)&&decide (p < s.size)) (.tup [.bool true,.int .i64 p,.int .i32 ((Utf8.decode s p.toNat).1:Int)]) ⟨[(i,false,[.dead,.str s,.int .i64 (p+((Utf8.decode s p.toNat).2:Int))])],[]⟩ (.tup [.bool false]) Upd.none
 | _=>.bad
def aLM (p:Prop):Out→Out
 | .ok v u=>.ask p v u
 | _=>.bad
def gset (g:Nat→List D) (i:Nat) (x:List D):Nat→List D:=fun k=>bif Nat.beq k i then x else g k
def qY (isAgg:Bool) (m z n i o:Nat):Option (Bool×List D)→Out
 | some (false,[.dead,.arr _ z' n' g])=>bif Nat.beq z' z then aLM (n'=n) (cC isAgg m ((aM (g i)).drop o)) else .bad
 | _=>.bad
def nO (j m z n i o:Nat) (x:D):Option (Bool×List D)→Out
 | some (false,[.dead,.arr w z' n' g])=>bif Nat.beq z' z&&aI x.cells&&Nat.beq x.cells.length m&&Nat.ble (o+m) z then
   .ask (n'=n) .dead ⟨[(j,false,[.dead,.arr w z' n' (gset g i (bif Nat.beq m z then aM x.cells else dZ (g i) o (aM x.cells)))])],[]⟩ else .bad
 | _=>.bad
def sF (j z n m bytes:Nat) (h:Nat→List D):Option (Bool×List D)→Out
 | some (false,[.dead,.arr true z' n' g])=>bif Nat.beq z' z then .ask (n'=n∧oS ((n+m) * bytes)) (.msl j z (n'+m)) ⟨[(j,false,[.dead,.arr true z' (n'+m) (gO g n' h)])],[]⟩ else .bad
 | _=>.bad
def fset {α:Type} (f:Nat→α) (j:Nat) (x:α):Nat→α:=fun k=>bif Nat.beq k j then x else f k
def jk (m j:Nat):Bool:=!(Nat.beq (m / 100) (j+1))
def ebT:List UInt8→Nat
 | []=>0
 | a::l=>(a.toNat+1)+257 * ebT l
def cpr (a b:Nat):Nat:=(a+b) * (a+b)+b
def cd (x y:ByteArray):Nat:=cpr (ebT x.data.toList) (ebT y.data.toList)+100
def sD (q n:Nat):Nat:=if q < n then n - 1 else n
def eJ {α:Type} (f:Nat→α) (q:Nat):Nat→α:=fun i=>if i < q then f i else f (i+1)
def zR:List D→Bool
 | []=>true
 | .nilm::l=>zR l
 | _=>false
def nT (isAgg:Bool) (n i off:Nat):Bool×List D→Out
 | (false,[.dead,.obj m _ _ nl _ _ _])=>.chk (Nat.ble (off+n) (m % 100)) (bif isAgg then .oagg i off n nl else .oref i off (nl off)) Upd.none
 | _=>.bad
def objSet (i off q:Nat):Bool×List D→Option (Bool×List D)→Out
 | (false,[.dead,.obj m c va nl n ks vs]),some (false,[.dead,.mp va' 0 _ _]) =>
  .chk (Nat.blt off (m % 100)&&nl off&&(Nat.beq (m / 100) (off+1) || eqBB va' (Nat.ble va off))) .dead ⟨[(i,false,[.dead,.obj m (c+1) va (fset nl off false) (fset n off 0) ks vs]),(q,true,[])],[]⟩
 | _,_=>.bad
def kM (hp:Nat→Option (Bool×List D)) (n i off:Nat) (e:Bool×List D) (x:D):Out :=
 match x with
 | .mref q=>bif Nat.beq n 1&&!(Nat.beq q i) then objSet i off q e (hp q) else .bad
 | _=>.bad
def aHT (j:Nat) (b:Bool):Option (Bool×List D)→Out
 | some (false,[.dead,.obj m _ _ _ n _ _])=>bif jk m j then .val (.int .i64 ((bif b then 0 else n j:Nat):Int)) else .bad
 | _=>.bad
def aID (i j:Nat) (b:Bool) (k:ByteArray) (v:D):Option (Bool×List D)→Out
 | some (false,[.dead,.obj m c va nl n ks vs])=>bif aI v.cells&&jk m j then
   .chk (!b&&eqBB v.isAgg (Nat.ble va j)) .dead ⟨[(i,false,[.dead,.obj m (c+1) va nl (fset n j (mpN (ks j) k (n j))) (fset ks j (gD (ks j) k (n j))) (fset vs j (gE (ks j) (vs j) k (aM v.cells) (n j)))])],[]⟩ else .bad
 | _=>.bad
def aHO (comma va:Bool) (zero:List D) (j:Nat) (b:Bool) (k:ByteArray):Option (Bool×List D)→Out
 | some (false,[.dead,.obj m _ va' _ n ks vs])=>bif jk m j&&eqBB va (Nat.ble va' j) then
   .alt (!b&&decide (mpF (ks j) k (n j) < n j)) (gU comma va true (vs j (mpF (ks j) k (n j)))) Upd.none (gU comma va false zero) Upd.none else .bad
 | _=>.bad
def aIG (i j:Nat) (b:Bool) (k:ByteArray):Option (Bool×List D)→Out
 | some (false,[.dead,.obj m c va nl n ks vs]) =>
   bif jk m j then .ok (.tup []) ⟨[(i,false,[.dead,.obj m (c+1) va nl (bif b then n else fset n j (sD (mpF (ks j) k (n j)) (n j))) (bif b then ks else fset ks j (eJ (ks j) (mpF (ks j) k (n j)))) (bif b then vs else fset vs j (eJ (vs j) (mpF (ks j) k (n j))))])],[]⟩ else .bad
 | _=>.bad
def aA2 (id i j:Nat) (b:Bool):Option (Bool×List D)→Out
 | some (false,[.dead,.obj m c _ _ _ _ _])=>bif jk m j then .ok (.ptr id 0) ⟨[(id,false,[.dead,.mit i j b c (fun _=>false) none])],[]⟩ else .bad
 | _=>.bad
def vI (hp:Nat→Option (Bool×List D)):Option (Bool×List D)→Out
 | some (false,[.dead,.mit i j false c _ (some q)])=>match hp i with
  | some (false,[.dead,.obj m c' va _ n ks vs])=>.ask (c'=c∧jk m j=true∧q < n j) (.tup [.str (ks j q),mkv (Nat.ble va j) (aM (vs j q))]) Upd.none
  | _=>.bad
 | _=>.bad
def gI (n:Nat) (ks:Nat→ByteArray):List ByteArray:=(((List.range n).map fun i=>(ks i).data.toList).mergeSort fun x y=>decide (x≤y)).map fun l=>⟨l.toArray⟩
def rL (n:Nat) (ks:Nat→ByteArray):Prop:=oS (n * 16)∧(∀ i,i < n→(ks i).size≤9223372036854775807)∧∀ i j,i < n→j < n→ks i=ks j→i=j
def yF (id j:Nat) (b:Bool):Option (Bool×List D)→Out
 | some (false,[.dead,.obj m _ _ _ n ks _])=>bif jk m j then .ask (rL (bif b then 0 else n j) (ks j)) (.slice (.own id) 1 (gI (bif b then 0 else n j) (ks j)).length (fun i=>[.str ((gI (bif b then 0 else n j) (ks j)).getD i default)])) ⟨[],[(id,1,(gI (bif b then 0 else n j) (ks j)).length)]⟩ else .bad
 | _=>.bad
def qC (i j:Nat) (b:Bool) (x y:ByteArray):Option (Bool×List D)→Out
 | some (false,[.dead,.obj m _ _ nl _ _ _])=>bif jk m j then .bad else .val (.oref i (cd x y) (b || nl (cd x y)))
 | _=>.bad
def qO (i j:Nat) (b:Bool) (x y:ByteArray) (q:Nat):Option (Bool×List D)→Option (Bool×List D)→Out
 | some (false,[.dead,.obj m c va nl n ks vs]),some (false,[.dead,.mp va' 0 _ _])=>bif jk m j || Nat.beq q i then .bad else
  .chk (!b&&nl (cd x y)&&eqBB va' (Nat.ble va (cd x y))) .dead ⟨[(i,false,[.dead,.obj m (c+1) va (fset nl (cd x y) false) (fset n (cd x y) 0) ks vs]),(q,true,[])],[]⟩
 | _,_=>.bad
def jN (o:AOp) (id:Nat) (hp:Nat→Option (Bool×List D)) (args:List D):Out :=
 match o,args with
 | .mapLen,[.oref i j b]=>aHT j b (hp i)
 | .mapSet,[.oref i j b,.str k,v]=>aID i j b k v (hp i)
 | .famSet,[.oref i j b,.agg [.str x,.str y],.mref q]=>qO i j b x y q (hp i) (hp q)
 | .mapGet comma va zero,[.oref i j b,.str k]=>aHO comma va zero j b k (hp i)
 | .famGet,[.oref i j b,.agg [.str x,.str y]]=>qC i j b x y (hp i)
 | .mapDel,[.oref i j b,.str k]=>aIG i j b k (hp i)
 | .mapWalk,[.oref i j b]=>aA2 id i j b (hp i)
 | .mapEntry,[.ptr i 0]=>vI hp (hp i)
 | .isNilM neg,[.oref _ _ b]=>.val (.bool (bif neg then !b else b))
 | .isNilM neg,[.nilm]=>.val (.bool (!neg))
 | .isNilM neg,[.mref _]=>.val (.bool neg)
 | .indexArr g z len,[.oagg k off m nl,.int _ i]=>bif g || !(Nat.beq z 1) then .bad else .chk (decide (0≤i)&&decide (i < len)&&Nat.ble len m) (.oref k (off+i.toNat) (nl (off+i.toNat))) Upd.none
 | .sliceObj len lo hi,.ptr i off::r=>match hp i with
  | some (false,[.dead,.obj m _ _ _ _ _ _])=>match tD lo r 0 with
   | some (l,r)=>match tD hi r len with
    | some (h,[])=>.chk (decide (0≤l)&&decide (l≤h)&&decide (h≤len)&&Nat.ble (off+len) (m % 100)) (.osl i (off+l.toNat) (h - l).toNat) Upd.none
    | _=>.bad
   | none=>.bad
  | _=>.bad
 | .len false,[.osl _ _ n]=>.val (.int .i64 n)
 | .indexAddr sz none,[.osl k off n,.int _ i]=>bif Nat.beq sz 1 then .chk (decide (0≤i)&&decide (i < n)) (.ptr k (off+i.toNat)) Upd.none else .bad
 | .mapKeys g,[.oref i j b]=>.val (.kseq g i j b)
 | _,_=>.bad
def aR (o:AOp) (id:Nat) (hp:Nat→Option (Bool×List D)) (tk:Nat→Option (Nat×Nat)) (args:List D):Out :=
 match o,args with
 | .move,[x]=>.val x
 | .pick,[.bool c,a,b]=>.val (bif c then a else b)
 | .alloc cells,[]=>bif aI cells then .ok (.ptr id 0) ⟨[(id,false,cJ cells (id+1))],aW cells (id+1)⟩ else .bad
 | .box,[x]=>bif aI x.cells then .ok (.ptr id 0) ⟨[(id,false,x.cells)],[]⟩ else .bad
 | .load isAgg n,[.ptr i off]=>match hp i with
  | some (f,cs)=>bif f || aI cs then cC isAgg n (cs.drop off) else nT isAgg n i off (f,cs)
  | none=>.bad
 | .load isAgg n,[.eptr l]=>cC isAgg n (aM l)
 | .store n,[.ptr i off,x]=>match hp i with
  | some (false,cs)=>bif !(aI cs) then kM hp n i off (false,cs) x else bif aI x.cells&&Nat.beq x.cells.length n&&Nat.ble (off+n) cs.length then .ok .dead ⟨[(i,false,dZ cs off x.cells)],[]⟩ else .bad
  | _=>.bad
 | .fieldAddr off,[.ptr i o]=>.val (.ptr i (o+off))
 | .fieldAddr off,[.eptr l]=>.val (.eptr (l.drop off))
 | .field isAgg off n,[.agg l]=>cC isAgg n (l.drop off)
 | .indexAddr sz none,[.slice _ z n g,.int _ i]=>bif !(Nat.beq z sz) then .bad else .chk (decide (0≤i)&&decide (i < n)) (.eptr (g i.toNat)) Upd.none
 | .indexAddr sz (some len),[.ptr j off,.int _ i]=>.chk (decide (0≤i)&&decide (i < len)) (.ptr j (off+i.toNat * sz)) Upd.none
 | .indexAddr sz (some len),[.eptr l,.int _ i]=>.chk (decide (0≤i)&&decide (i < len)) (.eptr (l.drop (i.toNat * sz))) Upd.none
 | .indexStr,[.str b,.int _ i]=>.chk (decide (0≤i)&&decide (i < b.size)) (.int .u8 ((nth b.data.toList i.toNat 0).toNat:Int)) Upd.none
 | .indexArr isAgg sz len,[.agg l,.int _ i]=>match cC isAgg sz (l.drop (i.toNat * sz)) with
  | .ok v u=>.chk (decide (0≤i)&&decide (i < len)) v u
  | _=>.bad
 | .build zero parts,xs=>match fill zero parts xs with
  | some l=>.val (.agg (ros l))
  | none=>.bad
 | .buildSlice sz len zero parts,xs=>match fill (rep len zero) parts xs with
  | some l=>bif Nat.beq zero.length sz&&aI l then .val (.slice .full sz len (bif Nat.beq len 1 then fun _=>aM l else fun i=>((aM l).drop (i * sz)).take sz)) else .bad
  | none=>.bad
 | .sliceSl sz lo hi mx,.slice _ z n g::r=>bif !(Nat.beq z sz) then .bad else match tD lo r 0 with
  | some (l,r)=>match tD hi r n with
   | some (h,r)=>match tD mx r h with
    | some (m,[])=>.chk (decide (0≤l)&&decide (l≤h)&&decide (h≤n)&&(m==h)) (.slice (bif mx then .full else .ro) z (h - l).toNat (aFH g l.toNat)) Upd.none
    | _=>.bad
   | none=>.bad
  | none=>.bad
 | .sliceStr lo hi,.str b::r=>match tD lo r 0 with
  | some (l,r)=>match tD hi r b.size with
   | some (h,[])=>.chk (decide (0≤l)&&decide (l≤h)&&decide (h≤b.size)) (.str (b.extract l.toNat h.toNat)) Upd.none
   | _=>.bad
  | none=>.bad
 | .sliceArr sz len np,[.ptr i off]=>match hp i with
  | some (f,cs)=>bif !(f || aI cs) then .bad else bif Nat.ble (off+len * sz) cs.length&&Nat.ble np i then .ok (.slice .ro sz len (fun j=>((aM cs).drop (off+j * sz)).take sz)) ⟨[(i,true,aM cs)],[]⟩ else .bad
  | none=>.bad
 | .sliceArr sz len _,[.eptr l]=>bif Nat.ble (len * sz) l.length then .val (.slice .ro sz len (fun j=>((aM l).drop (j * sz)).take sz)) else .bad
 | .len false,[.slice _ _ n _]=>.val (.int .i64 n)
 | .len true,[.str b]=>.val (.int .i64 b.size)
 | .append sz bytes,[.slice t z n g,.slice _ z' m h]=>bif Nat.beq z' sz then dF id sz bytes tk t z n g m h else .bad
 | .append sz bytes,[.slice t z n g,.str b]=>bif Nat.beq sz 1 then dF id sz bytes tk t z n g b.size (oQ b) else .bad
 | .bin op,[x,y]=>bin op x y
 | .binB neg,[.bool a,.bool b]=>.val (.bool (bif neg then !(a==b) else a==b))
 | .eqAgg neg codes,[.agg l,.agg m]=>match aFR codes l m with
  | some b=>.val (.bool (bif neg then !b else b))
  | none=>.bad
 | .un op,[x]=>un op x
 | .conv (.int kd),[.int _ n]=>.val (.int kd (kd.wrap n))
 | .conv .s2b,[.str b]=>.val (.slice .ro 1 b.size (oQ b))
 | .conv .b2s,[.slice _ _ n g]=>.ask (aHF n g) (.str (wB n g)) Upd.none
 | .conv .same,[.str b]=>.val (.str b)
 | .conv .r2s,[.int _ n]=>.val (.str (Utf8.encode n))
 | .mkfunc f np,xs=>match freeze np hp xs with
  | some (ds,u)=>.ok (.fn f ds) ⟨u,[]⟩
  | none=>.bad
 | .extract i,[.tup l]=>bif Nat.blt i l.length then .val (nth l i .dead) else .bad
 | .makeSlice zero bytes,[.int _ l,.int _ c]=>bif !(aI zero) then .bad else bif Nat.ble 1000000 id then .ask (0≤l∧l≤c∧oS (c.toNat * bytes)) (.msl id zero.length l.toNat) ⟨[(id,false,[.dead,.arr true zero.length l.toNat (fun _=>zero)])],[]⟩ else .ask (0≤l∧l≤c∧oS (c.toNat * bytes)) (.slice (.own id) zero.length l.toNat (fun _=>zero)) ⟨[],[(id,zero.length,l.toNat)]⟩
 | .nilCheck,[.ptr i off]=>.val (.ptr i off)
 | .nilCheck,[.eptr l]=>.val (.eptr l)
 | .mnmx isMax,[.int kd a,.int _ b]=>.val (.int kd (bif isMax then (bif decide (a < b) then b else a) else (bif decide (b < a) then b else a)))
 | .nilSl sz,[]=>.ok (.slice (.own id) sz 0 d8) ⟨[],[(id,sz,0)]⟩
 | .iterStr,[.str s]=>.ok (.ptr id 0) ⟨[(id,false,[.dead,.str s,.int .i64 0])],[]⟩
 | .nextStr,[.ptr i 0]=>q6 i (hp i)
 | .mkMap va lin,[]=>.ok (.mref id) ⟨[(id,false,[bif va&&lin then .nilp else .dead,.mp va 0 (fun _=>.empty) d8])],[]⟩
 | .mapLen,[.mref i]=>v6 (hp i)
 | .mapSet,[.mref i,.str k,v]=>wU tk i k v (hp i)
 | .mapGet comma va zero,[.mref i,.str k]=>wL comma va zero id i k (hp i)
 | .isNil true neg,[.nilp]=>.val (.bool (!neg))
 | .isNil true neg,[.ptr _ _]=>.val (.bool neg)
 | .isNil true neg,[.eptr _]=>.val (.bool neg)
 | .isNil false neg,[.slice _ _ n _]=>.alt (Nat.beq n 0) .ubool Upd.none (.bool neg) Upd.none
 | .len false,[.msl _ _ n]=>.val (.int .i64 n)
 | .indexAddr sz none,[.msl j z n,.int _ i]=>bif !(Nat.beq z sz) then .bad else .chk (decide (0≤i)&&decide (i < n)) (.rptr j z n i.toNat 0) Upd.none
 | .fieldAddr off,[.rptr j z n i o]=>.val (.rptr j z n i (o+off))
 | .nilCheck,[.rptr j z n i o]=>.val (.rptr j z n i o)
 | .load isAgg m,[.rptr j z n i o]=>qY isAgg m z n i o (hp j)
 | .store m,[.rptr j z n i o,x]=>nO j m z n i o x (hp j)
 | .append sz bytes,[.msl j z n,.slice _ z' m h]=>bif !(Nat.ble 1000000 id&&Nat.beq z sz&&Nat.beq z' sz) then .bad else sF j z n m bytes h (hp j)
 | .keysSort g,[.kseq g' i j b]=>bif Nat.beq g' g then yF id j b (hp i) else .bad
 | o,args=>jN o id hp args
def ptrs:List D→List Nat
 | []=>[]
 | .ptr id _::l=>id::ptrs l
 | .msl id _ _::l=>id::ptrs l
 | _::l=>ptrs l
def pX:List D→Bool
 | []=>true
 | .ptr _ _::_=>false
 | .msl _ _ _::_=>false
 | _::l=>pX l
def mI:List D→Nat→List D
 | [],_=>[]
 | .ptr _ off::l,j=>.ptr j off::mI l (j+1)
 | .msl _ z n::l,j=>.msl j z n::mI l (j+1)
 | d::l,j=>d.pure::mI l j
def cV:List D→Bool
 | [.dead,.arr _ _ _ _]=>true
 | _=>false
def bS:List D→Bool
 | [.dead,.obj _ _ _ _ _ _ _]=>true
 | _=>false
def eF:List D→Bool
 | [.dead,.mit _ _ _ _ _ _]=>true
 | _=>false
def fH (cs:List D):Bool:=cV cs || bS cs || eF cs
def eQ (w:Bool):List D→List D
 | [.dead,.arr _ z n g]=>[.dead,.arr w z n g]
 | [.dead,.obj m _ va nl n ks vs]=>[.dead,.obj m 0 va nl n ks vs]
 | cs=>aM cs
def okB (cs:List D):Bool:=aI cs || cV cs || bS cs
def nD (k:Nat):List D→List D
 | [.dead,.obj m _ va nl n ks vs]=>[.dead,.obj m k va nl n ks vs]
 | cs=>cs
def xB:List D→Nat
 | [.dead,.obj _ c _ _ _ _ _]=>c
 | _=>0
def ctr (hp:Nat→Option (Bool×List D)) (id:Nat) (cs:List D):Nat :=
 match hp id with
 | some (_,[.dead,.obj _ c _ _ _ _ _])=>c+xB cs
 | _=>0
def rW:List D→Nat×Nat
 | [.dead,.obj m _ va _ _ _ _]=>(m+1,va)
 | _=>(0,0)
def cL (hp:Nat→Option (Bool×List D)):List Nat→Option (List (List D))
 | []=>some []
 | id::l=>match hp id,cL hp l with
  | some (false,cs),some r=>bif okB (eQ false cs) then some (eQ false cs::r) else none
  | _,_=>none
def rZ:List (List D)→Bool
 | []=>true
 | cs::l=>okB cs&&rZ l
def flg (hp:Nat→Option (Bool×List D)) (id:Nat):Bool :=
 match hp id with
 | some (_,[.dead,.arr w _ _ _])=>w
 | _=>false
def mU:List (List D)→List (List D)→Bool
 | [],[]=>true
 | b::l,c::m=>okB (eQ false c)&&eqBB (cV b) (cV c)&&Nat.beq (rW b).1 (rW c).1&&Nat.beq (rW b).2 (rW c).2&&mU l m
 | _,_=>false
def aY (hp:Nat→Option (Bool×List D)):List Nat→List (List D)→List (Nat×Bool×List D)
 | id::l,cs::r=>(id,false,nD (ctr hp id cs) (eQ (flg hp id) cs))::aY hp l r
 | _,_=>[]
def dN:List Nat→Bool
 | []=>true
 | a::l=>bif l.any (Nat.beq a) then false else dN l
def lL:List D→D
 | [d]=>d
 | l=>.tup l
def aKD:List D→Bool
 | []=>true
 | .tup _::_=>false
 | .ptr _ _::_=>false
 | .eptr _::_=>false
 | .fn _ _::_=>false
 | _::l=>aKD l
def D.res:D→D
 | .agg c=>.agg (aM c)
 | .slice (.own i) z n g=>.slice (.own i) z n g
 | d=>d.pure1
def aZ:List D→List D
 | []=>[]
 | d::l=>d.res::aZ l
def gZ (id:Nat) (ids:List Nat) (hp:Nat→Option (Bool×List D)) (bs:List (List D)) (rs:List D) (bs':List (List D)):Out :=
 match rs with
 | [.newp l]=>.chk (mU bs bs'&&aI (aM l)) (.ptr id 0) ⟨aY hp ids bs'++[(id,false,aM l)],[]⟩
 | [.arr _ z n g]=>.chk (mU bs bs') (.msl id z n) ⟨aY hp ids bs'++[(id,false,[.dead,.arr true z n g])],[]⟩
 | rs=>.chk (aKD rs&&Nat.ble rs.length 4&&mU bs bs') (lL (cJ (aZ rs) id)) ⟨aY hp ids bs',aW (aZ rs) id⟩
def uT:List D→Option Nat
 | [.dead,.arr _ _ m _]=>some m
 | _=>none
def oO:List D→List (List D)→Prop→Prop
 | [],_,k=>k
 | .ptr _ _::l,bs,k=>Br (cV (bs.headD [])) False (oO l bs.tail k)
 | .msl _ _ n::l,bs,k=>match uT (bs.headD []) with
  | some m=>n=m∧oO l bs.tail k
  | none=>False
 | _::l,bs,k=>oO l bs k
def fK (C:bA) (id:Nat) (vs:List D) (hp:Nat→Option (Bool×List D)) (k:D→Upd→Prop):Prop :=
 match cL hp (ptrs vs) with
 | some bs=>Br (dN (ptrs vs)) (oO vs bs (C (mI vs 0) bs (fun rs bs'=>(gZ id (ptrs vs) hp bs rs bs').then k))) False
 | none=>False
def agc (E:Env) (id f:Nat):Option bA :=
 match ag E (f+1000 * (id+1)) with
 | some C=>some C
 | none=>ag E f
def nN (it:Nat) (hp:Nat→Option (Bool×List D)) (e:Option (Bool×List D)) (k:D→Upd→Prop):Prop :=
 match e with
 | some (false,[.dead,.mit i j b c s q])=>match hp i with
  | some (false,[.dead,.obj m c' va _ n ks vs])=>c'=c∧jk m j=true∧((b=true∨∀ x,x < n j→s x=true)→k (.tup [.bool false]) Upd.none) ∧
    (b=false→∀ x,x < n j→s x=false→k (.tup [.bool true,.str (ks j x),mkv (Nat.ble va j) (aM (vs j x))]) ⟨[(it,false,[.dead,.mit i j false c (fun y=>bif Nat.beq y x then true else s y) (some x)])],[]⟩)
  | _=>False
 | _=>False
def step (E:Env) (o:AOp) (id:Nat) (hp:Nat→Option (Bool×List D)) (tk:Nat→Option (Nat×Nat)) (args:List D) (k:D→Upd→Prop):Prop :=
 match o with
 | .call p f=>match agc E id f with
  | some C=>bif p then fK C id args hp k else Br (pX args) (fK C id args hp k) False
  | none=>False
 | .callv p=>match args with
  | .fn f cap::r=>match ag E f with
   | some C=>bif p then fK C id (r++cap) hp k else Br (pX (r++cap)) (fK C id (r++cap) hp k) False
   | none=>False
  | _=>False
 | .mapNext=>match args with
  | [.ptr i 0]=>nN i hp (hp i) k
  | _=>False
 | o=>(aR o id hp tk args).then k
def fI (dst:Option Nat) (v:D) (fr:List D):List D :=
 match dst with
 | some d=>upd fr d v
 | none=>fr
def aIS:List D→Nat→D→(List D→Prop)→Prop
 | [],_,_,k=>k []
 | _::l,0,b,k=>k (b::l)
 | a::l,i+1,b,k=>aIS l i b fun l'=>k (a::l')
def aHU (dst:Option Nat) (v:D) (fr:List D) (k:List D→Prop):Prop :=
 match dst with
 | some d=>aIS fr d v k
 | none=>k fr
def aJ5 (E:Env) (o:AO) (s:St) (k:St→Prop):Prop :=
 step E o.op o.id s.hp s.tk (evs s.fr o.args) (fun v u=>aHU o.dst v s.fr fun fr=>k ⟨fr,bX s.hp u.h,cF s.tk u.t⟩)
def gOp (E:Env) (o:AO) (s:St) (k:St→Prop):Prop :=
 match o.guard with
 | none=>aJ5 E o s k
 | some (j,w)=>match nth s.fr j .dead with
  | .bool b=>Br b
    (aIS s.fr j (.bool true) fun fr=>Br w (aJ5 E o ⟨fr,s.hp,s.tk⟩ k) (aHU o.dst (.tup []) fr fun fr=>k ⟨fr,s.hp,s.tk⟩))
    (aIS s.fr j (.bool false) fun fr=>Br w (aHU o.dst (.tup []) fr fun fr=>k ⟨fr,s.hp,s.tk⟩) (aJ5 E o ⟨fr,s.hp,s.tk⟩ k))
  | .tup []=>aHU o.dst (.tup []) s.fr fun fr=>k ⟨fr,s.hp,s.tk⟩
  | _=>False
def l9 (E:Env):List AO→St→(St→Prop)→Prop
 | [],s,k=>k s
 | o::l,s,k=>gOp E o s (fun s'=>l9 E l s' k)
def rD (E:Env):List (List AO)→St→(St→Prop)→Prop
 | [],_,_=>False
 | [l],s,k=>l9 E l s k
 | l::r,s,k=>l9 E l s k∧rD E r s k
def kills (ks:List Nat) (fr:List D):List D :=
 match ks with
 | []=>fr
 | i::l=>kills l (upd fr i .dead)
def mD (hp:Nat→Option (Bool×List D)):List Nat→List (Nat×Bool×List D)
 | []=>[]
 | i::l=>match hp i with
  | some e=>(i,e)::mD hp l
  | none=>mD hp l
def kL (tk:Nat→Option (Nat×Nat)):List Nat→List (Nat×Nat×Nat)
 | []=>[]
 | i::l=>match tk i with
  | some e=>(i,e)::kL tk l
  | none=>kL tk l
def iX (lo hi:Nat):List (Nat×Bool×List D)→Bool
 | []=>false
 | (i,_,cs)::l=>bif Nat.ble lo i&&Nat.blt i hi then true else bif names lo hi cs then true else iX lo hi l
def jI (lo hi:Nat):List (Nat×Nat×Nat)→Bool
 | []=>false
 | (i,_)::l=>bif Nat.ble lo i&&Nat.blt i hi then true else jI lo hi l
inductive DEq:D→D→Prop
 | refl (d:D):DEq d d
 | dead (d:D):DEq d .dead
 | slice (t t':Tag) (z n:Nat) (g h:Nat→List D):(t'=t∨t'=.ro)→(∀ i,i < n→(g i).length=(h i).length)→(∀ i,i < n→∀ j,DEq (nth (g i) j .dead) (nth (h i) j .dead))→DEq (.slice t z n g) (.slice t' z n h)
 | agg (l l':List D):l.length=l'.length→(∀ j,DEq (nth l j .dead) (nth l' j .dead))→DEq (.agg l) (.agg l')
 | eptr (l l':List D):l.length=l'.length→(∀ j,DEq (nth l j .dead) (nth l' j .dead))→DEq (.eptr l) (.eptr l')
 | fn (f:Nat) (l l':List D):l.length=l'.length→(∀ j,DEq (nth l j .dead) (nth l' j .dead))→DEq (.fn f l) (.fn f l')
 | mp (va:Bool) (n:Nat) (ks ks':Nat→ByteArray) (vs vs':Nat→List D):(∀ i,i < n→ks i=ks' i)→(∀ i,i < n→(vs i).length=(vs' i).length)→(∀ i,i < n→∀ j,DEq (nth (vs i) j .dead) (nth (vs' i) j .dead))→DEq (.mp va n ks vs) (.mp va n ks' vs')
 | newp (l l':List D):l.length=l'.length→(∀ j,DEq (nth l j .dead) (nth l' j .dead))→DEq (.newp l) (.newp l')
 | arr (w:Bool) (z n:Nat) (g h:Nat→List D):(∀ i,i < n→(g i).length=(h i).length)→(∀ i,i < n→∀ j,DEq (nth (g i) j .dead) (nth (h i) j .dead))→DEq (.arr w z n g) (.arr w z n h)
 | obj (m c va:Nat) (nl nl':Nat→Bool) (n n':Nat→Nat) (ks ks':Nat→Nat→ByteArray) (vs vs':Nat→Nat→List D):(∀ j,nl j=nl' j)→(∀ j,n j=n' j)→(∀ j i,i < n j→ks j i=ks' j i)→(∀ j i,i < n j→(vs j i).length=(vs' j i).length)→(∀ j i,i < n j→∀ q,DEq (nth (vs j i) q .dead) (nth (vs' j i) q .dead))→DEq (.obj m c va nl n ks vs) (.obj m c va nl' n' ks' vs')
def DEqs (l l':List D):Prop:=l.length=l'.length∧∀ j,DEq (nth l j .dead) (nth l' j .dead)
theorem DEqs.refl (l:List D):DEqs l l:=⟨rfl,fun _=>.refl _⟩
theorem DEqs.nil:DEqs [] []:=DEqs.refl _
theorem DEqs.cons {d d':D} {l l':List D} (h:DEq d d') (e:DEqs l l'):DEqs (d::l) (d'::l') :=
 ⟨by simp [e.1],fun j=>by cases j with
  | zero=>exact h
  | succ j=>exact e.2 j⟩
def gl {α:Type} [Inhabited α] (enc:α→List D) (l:List α):Nat→List D:=fun i=>enc (l.getD i default)
def aKH:Tag→Tag→Bool
 | _,.ro=>true
 | .full,.full=>true
 | .own i,.own j=>Nat.beq i j
 | _,_=>false
def dI (d d':D) (k:Prop):Prop :=
 match d' with
 | .dead=>k
 | .int kd m=>match d with
  | .int kd' n=>Br (kD kd' kd) (n=m∧k) False
  | _=>False
 | .bool b=>match d with
  | .bool b'=>b'=b∧k
  | _=>False
 | .str s=>match d with
  | .str s'=>s'=s∧k
  | _=>False
 | .slice t z m h=>match d with
  | .slice t' z' n g=>Br (aKH t' t&&Nat.beq z' z) (n=m∧(∀ i,i < m→DEqs (g i) (h i))∧k) False
  | _=>False
 | .ptr i o=>match d with
  | .ptr i' o'=>Br (Nat.beq i' i&&Nat.beq o' o) k False
  | _=>False
 | .eptr l=>match d with
  | .eptr l'=>DEqs l' l∧k
  | _=>False
 | .nilp=>match d with
  | .nilp=>k
  | _=>False
 | .mref i=>match d with
  | .mref i'=>Br (Nat.beq i' i) k False
  | _=>False
 | .mp va m ks vs=>match d with
  | .mp va' n ks' vs'=>Br (eqBB va' va) (n=m∧(∀ i,i < m→ks' i=ks i)∧(∀ i,i < m→DEqs (vs' i) (vs i))∧k) False
  | _=>False
 | .newp l=>match d with
  | .newp l'=>DEqs l' l∧k
  | _=>False
 | .arr w z m h=>match d with
  | .arr w' z' n g=>Br (eqBB w' w&&Nat.beq z' z) (n=m∧(∀ i,i < m→DEqs (g i) (h i))∧k) False
  | _=>False
 | .msl i z m=>match d with
  | .msl i' z' n=>Br (Nat.beq i' i&&Nat.beq z' z) (n=m∧k) False
  | _=>False
 | .rptr i z m e o=>match d with
  | .rptr i' z' n e' o'=>Br (Nat.beq i' i&&Nat.beq z' z&&Nat.beq o' o) (n=m∧e'=e∧k) False
  | _=>False
 | .fn f l=>match d with
  | .fn f' l'=>Br (Nat.beq f' f) (DEqs l' l∧k) False
  | _=>False
 | .nilm=>match d with
  | .nilm=>k
  | _=>False
 | .oref i j b=>match d with
  | .oref i' j' b'=>Br (Nat.beq i' i) (j'=j∧b'=b∧k) False
  | _=>False
 | .oagg i off m nl=>match d with
  | .oagg i' off' m' nl'=>Br (Nat.beq i' i&&Nat.beq off' off&&Nat.beq m' m) (nl'=nl∧k) False
  | _=>False
 | .osl i off m=>match d with
  | .osl i' off' m'=>Br (Nat.beq i' i) (off'=off∧m'=m∧k) False
  | _=>False
 | .mit i j b c s q=>match d with
  | .mit i' j' b' c' s' q'=>Br (Nat.beq i' i) (j'=j∧b'=b∧c'=c∧s'=s∧q'=q∧k) False
  | _=>False
 | .obj m c va nl n ks vs=>match d with
  | .obj m' c' va' nl' n' ks' vs'=>Br (Nat.beq m' m&&Nat.beq va' va) (c'=c∧(∀ j,nl' j=nl j)∧(∀ j,n' j=n j)∧(∀ j i,i < n j→ks' j i=ks j i∧DEqs (vs' j i) (vs j i))∧k) False
  | _=>False
 | _=>False
def mO:List D→List D→Prop→Prop
 | [],[],k=>k
 | d::l,d'::l',k=>dI d d' (mO l l' k)
 | _,_,_=>False
def aH7 (d d':D) (k:Prop):Prop :=
 match d' with
 | .agg l'=>match d with
  | .agg l=>mO l l' k
  | _=>False
 | d'=>dI d d' k
def oU:List D→List D→Prop→Prop
 | [],[],k=>k
 | d::l,d'::l',k=>aH7 d d' (oU l l' k)
 | _,_,_=>False
def s3:List (List D)→List (List D)→Prop→Prop
 | [],[],k=>k
 | c::l,c'::l',k=>mO c c' (s3 l l' k)
 | _,_,_=>False
def aIE:Bool→Bool→Bool
 | true,true=>true
 | false,false=>true
 | _,_=>false
def r9:List D→Bool
 | [.dead,.str _,.int .i64 _]=>true
 | _=>false
def aGT:List D→Bool
 | [_,.mp _ _ _ _]=>true
 | _=>false
def hpK (hp:Nat→Option (Bool×List D)):List (Nat×Bool×List D)→Prop→Prop
 | [],k=>k
 | (i,f,cs)::l,k=>match hp i with
  | some (f',cs')=>Br ((f || (aI cs&&aI cs') || (r9 cs&&r9 cs') || (aGT cs&&aGT cs') || (cV cs&&cV cs') || (bS cs&&bS cs') || (eF cs&&eF cs'))&&aIE f' f) (mO cs' cs (hpK hp l k)) False
  | none=>False
def tkK (tk:Nat→Option (Nat×Nat)):List (Nat×Nat×Nat)→Prop→Prop
 | [],k=>k
 | (i,z,n)::l,k=>match tk i with
  | some (z',n')=>Br (Nat.beq z' z) (n'=n∧tkK tk l k) False
  | none=>False
def xF (t:Tm):St:=⟨t.fr,ag t.hp,ag t.tk⟩
def lP {α:Type} (S:α→Tm) (lo hi:Nat) (s:St) (k:α→Prop):Prop :=
 ∃ x,Br (jG lo hi (S x).fr || iX lo hi (S x).hp || jI lo hi (S x).tk) False (oU s.fr (S x).fr (hpK s.hp (S x).hp (tkK s.tk (S x).tk (k x))))
def ro1K (lo hi:Nat):D→D
 | .slice (.own j) z n g=>.slice (bif Nat.ble lo j&&Nat.blt j hi then .ro else .own j) z n g
 | d=>d
def aAD (lo hi:Nat):List D→List D
 | []=>[]
 | d::l=>ro1K lo hi d::aAD lo hi l
def gV (kill kh kt:List Nat) (lo hi:Nat) (s:St) (k:St→Prop):Prop :=
 Br (jG lo hi (aAD lo hi (kills kill s.fr)) || iX lo hi (mD s.hp kh) || jI lo hi (kL s.tk kt)) False
  (k ⟨aAD lo hi (kills kill s.fr),ag (mD s.hp kh),ag (kL s.tk kt)⟩)
def yW (H:St→(St→Prop)→Prop) (F:(AE→St→Prop)→St→Prop) (Q:AE→St→Prop):Nat→St→Prop
 | 0,_=>False
 | n+1,s=>F (fun e s'=>match e with
  | .normal=>H s' (yW H F Q n)
  | .exit j=>Q (.exit j) s'
  | .ret=>Q .ret s') s
def aE8 (N:St→Prop) (Q:AE→St→Prop):AE→St→Prop
 | .normal,s=>N s
 | .exit j,s=>Q (.exit j) s
 | .ret,s=>Q .ret s
def aKR {α:Type} (S:α→Tm) (lo hi:Nat) (R:α→Prop) (Q:AE→St→Prop):AE→St→Prop
 | .normal,s=>lP S lo hi s R
 | .exit j,s=>Q (.exit j) s
 | .ret,s=>Q .ret s
def aJL (id:Nat) (Q:AE→St→Prop):AE→St→Prop
 | .normal,s=>Q .normal s
 | .exit j,s=>Br (Nat.beq j id) (Q .normal s) (Q (.exit j) s)
 | .ret,s=>Q .ret s
def wS (i id j:Nat) (s:St) (k:St→Prop):Prop :=
 match s.hp id with
 | some (false,cs)=>match nth cs j .dead with
  | .slice .full z n g=>Br (aI cs) (k ⟨s.fr,bX s.hp [(id,false,upd cs j (.slice (.own i) z n g))],cF s.tk [(i,z,n)]⟩) False
  | _=>False
 | _=>False
def aEX (i t:Nat) (s:St):Option St :=
 match nth s.fr t .dead with
 | .slice (.own j) z 0 _=>match s.tk j with
  | some (z',0)=>bif Nat.beq z' z then some ⟨upd s.fr t (.msl i z 0),bX s.hp [(i,false,[.dead,.arr true z 0 d8])],fun q=>bif Nat.beq q j then none else s.tk q⟩ else none
  | _=>none
 | _=>none
def aCR (i t:Nat) (s:St) (k:St→Prop):Prop :=
 match aEX i t s with
 | some s'=>k s'
 | none=>False
def aJ1 (t:Nat) (s:St):Option (Prop×St) :=
 match nth s.fr t .dead with
 | .msl i z n=>match s.hp i with
  | some (false,[.dead,.arr true z' n' g])=>bif Nat.beq z' z then some (n'=n,⟨upd s.fr t (.slice .ro z n' g),bX s.hp [(i,true,[])],s.tk⟩) else none
  | _=>none
 | _=>none
def aH4 (t:Nat) (s:St) (k:St→Prop):Prop :=
 match aJ1 t s with
 | some (p,s')=>p∧k s'
 | none=>False
def zJ (np va t:Nat) (s:St):Option St :=
 match nth s.fr t .dead with
 | .ptr id 0=>match s.hp id with
  | some (false,cs)=>bif zR cs&&Nat.ble np id&&Nat.blt 0 cs.length&&Nat.blt cs.length 100&&Nat.ble (va / 100) cs.length then some ⟨s.fr,bX s.hp [(id,false,[.dead,.obj (cs.length+100 * (va / 100)) 0 (va % 100) (fun _=>true) (fun _=>0) (fun _ _=>.empty) (fun _ _=>[])])],s.tk⟩ else none
  | _=>none
 | _=>none
def tZ (np va t:Nat) (s:St) (k:St→Prop):Prop :=
 match zJ np va t s with
 | some s'=>k s'
 | none=>False
def aev (E:Env):AC→(AE→St→Prop)→St→Prop
 | .skip,Q,s=>Q .normal s
 | .region ops,Q,s=>l9 E ops s (Q .normal)
 | .orders l,Q,s=>rD E l s (Q .normal)
 | .seq a b,Q,s=>aev E a (aE8 (aev E b Q) Q) s
 | .cond c t e,Q,s=>match c.ev s.fr with
  | .bool b=>Br b (aev E t Q s) (aev E e Q s)
  | .ubool=>aev E t Q s∧aev E e Q s
  | _=>False
 | .block id c,Q,s=>aev E c (aJL id Q) s
 | .loop n ks kh kt lo hi c,Q,s=>gV ks kh kt lo hi s (yW (gV ks kh kt lo hi) (aev E c) Q n)
 | .loopT α S lo hi c,Q,s=>∃ (I:α→Prop) (μ:α→Nat),lP S lo hi s I∧∀ y,I y→aev E c (aKR S lo hi (fun z=>I z∧μ z < μ y) Q) (xF (S y))
 | .stuck,_,_=>False
 | .adopt i id j,Q,s=>wS i id j s (Q .normal)
 | .thaw i t,Q,s=>aCR i t s (Q .normal)
 | .frz t,Q,s=>aH4 t s (Q .normal)
 | .toObj np va t,Q,s=>tZ np va t s (Q .normal)
 | .joinT α S a b,Q,s=>∃ I:α→Prop,aev E a (aE8 (fun s'=>lP S 0 0 s' I) Q) s∧∀ y,I y→aev E b Q (xF (S y))
 | .cut _ S,Q,s=>lP S 0 0 s fun x=>Q .normal (xF (S x))
 | .exit id,Q,s=>Q (.exit id) s
 | .ret,Q,s=>Q .ret s
inductive RV where
 | tmp (t:Nat)
 | cell (a:Nat) (isAgg:Bool) (n:Nat)
def gN (tk:Nat→Option (Nat×Nat)) (v:D) (k:D→(Nat→Option (Nat×Nat))→Prop):Prop :=
 match v with
 | .slice (.own i) z n g=>match tk i with
  | some (z',n')=>bif Nat.beq z z' then n'=n∧k (.slice (.own 0) z n g) (fun j=>bif Nat.beq j i then none else tk j) else False
  | none=>k (.slice .ro z n g) tk
 | .agg l=>k (.agg (aM l)) tk
 | v=>k v.pure1 tk
def sA (fr:List D) (hp:Nat→Option (Bool×List D)):List RV→(Nat→Option (Nat×Nat))→(List D→Prop)→Prop
 | [],_,k=>k []
 | .tmp t::l,tk,k=>gN tk (nth fr t .dead) fun v tk=>sA fr hp l tk fun vs=>k (v::vs)
 | .cell a isAgg n::l,tk,k=>match nth fr a .dead with
  | .ptr id off=>match hp id with
   | some (f,cs)=>Br (f || aI cs) ((cC isAgg n (cs.drop off)).then fun v _=>gN tk v fun v tk=>sA fr hp l tk fun vs=>k (v::vs)) False
   | none=>False
  | _=>False
def nQ (rs:List RV) (ps:List Nat) (s:St) (k:List D→Prop):Prop :=
 match rs with
 | [.tmp t]=>match nth s.fr t .dead with
  | .ptr id 0=>match s.hp id with
   | some (false,cs)=>Br (aI cs&&!(ps.any (Nat.beq id))) (k [.newp (aM cs)]) False
   | _=>False
  | .msl id z n=>match s.hp id with
   | some (false,[.dead,.arr true z' n' g])=>Br (Nat.beq z' z&&!(ps.any (Nat.beq id))) (n'=n∧k [.arr true z n' g]) False
   | _=>False
  | _=>sA s.fr s.hp rs s.tk k
 | _=>sA s.fr s.hp rs s.tk k
def aGB:List D→List D
 | [.dead,.obj m c va nl n ks vs]=>[.dead,.obj m c va nl n ks vs]
 | cs=>eQ false cs
def xR (b b':List D):List D:=bif Nat.beq (xB b') 0 then b else nD (xB b') b
def vQ:List (List D)→List (List D)→List (List D)
 | b::l,b'::l'=>xR b b'::vQ l l'
 | l,_=>l
def cS (hp:Nat→Option (Bool×List D)):List Nat→(List (List D)→Prop)→Prop
 | [],k=>k []
 | id::l,k=>match hp id with
  | some (false,cs)=>Br (okB cs) (cS hp l fun bs=>k (aGB cs::bs)) False
  | _=>False
inductive DEqB:List (List D)→List (List D)→Prop
 | nil:DEqB [] []
 | cons {c c':List D} {l l':List (List D)}:DEqs c c'→DEqB l l'→DEqB (c::l) (c'::l')
def aC6 (K:List D→List (List D)→Prop) (vs:List D) (bs:List (List D)):Prop:=∃ vs' bs',DEqs vs vs'∧DEqB (vQ bs bs') bs'∧K vs' bs'
def RP (rs:List RV) (ps:List Nat) (K:List D→List (List D)→Prop):AE→St→Prop
 | .exit _,_=>False
 | .normal,s=>nQ rs ps s fun vs=>cS s.hp ps fun bs=>aC6 K vs bs
 | .ret,s=>nQ rs ps s fun vs=>cS s.hp ps fun bs=>aC6 K vs bs
def nP:Nat→List (List D)→List (Nat×Bool×List D)
 | _,[]=>[]
 | i,b::bs=>(i,false,b)::nP (i+1) bs
def dd:Nat→List D→List D
 | 0,l=>l
 | n+1,l=>.dead::dd n l
def aCP:Nat→List D
 | 0=>[]
 | n+1=>.dead::aCP n
def init (vs:List D) (bs:List (List D)) (more:Nat):St :=
 { fr:=vs++aCP more,hp:=ag (nP 0 bs),tk:=fun _=>none }
def aGZ:Nat→List Nat
 | 0=>[]
 | n+1=>aGZ n++[n]
structure AF where
 body:AC
 results:List RV
 ptrs:Nat
 more:Nat
def RG (rs:List RV) (ps:List Nat) (vs':List D) (bs':List (List D)):AE→St→Prop
 | .exit _,_=>False
 | .normal,s=>nQ rs ps s fun vs=>cS s.hp ps fun bs=>oU vs vs' (s3 (vQ bs bs') bs' True)
 | .ret,s=>nQ rs ps s fun vs=>cS s.hp ps fun bs=>oU vs vs' (s3 (vQ bs bs') bs' True)
def AF.gives (E:Env) (f:AF) (vs:List D) (bs:List (List D)) (vs':List D) (bs':List (List D)):Prop :=
 aev E f.body (RG f.results (aGZ f.ptrs) vs' bs') (init vs bs f.more)
def FnC {α:Type} (args:α→List D) (blks:α→List (List D)) (pre:α→Prop) (res:α→List D) (blks':α→List (List D)):bA :=
 fun vs bs K=>∃ a,Br (rZ (blks a)) (oU vs (args a) (s3 bs (blks a) (pre a∧K (res a) (blks' a)))) False
def noB {α:Type}:α→List (List D):=fun _=>[]
def AF.runs (E:Env) (f:AF) (K:List D→List (List D)→Prop) (vs:List D) (bs:List (List D)):Prop :=
 aev E f.body (RP f.results (aGZ f.ptrs) K) (init vs bs f.more)
end Go.Abs
namespace Go.Abs
abbrev FT:=List (Nat×Nat)
def iD:Value→Option D
 | .bool b=>some (.bool b)
 | .int k n=>some (.int k n)
 | .string s=>some (.str s)
 | .pointer none=>some .nilp
 | .slice none 0 0=>some (.slice .full 0 0 d8)
 | .map none=>some .nilm
 | _=>none
def cW:List Value→Option (List D)
 | []=>some []
 | v::l=>match iD v,cW l with
  | some d,some ds=>some (d::ds)
  | _,_=>none
def ofValue:Value→Option D
 | .agg cs=>(cW cs.toList).map .agg
 | v=>iD v
def bY (P:Program) (t:TypeId):Option Bool :=
 match P.underlying t with
 | some (.struct _)=>some true
 | some (.array _ _)=>some true
 | some _=>some false
 | none=>none
def cA (P:Program) (t:TypeId):Option Nat:=(P.info? t).map (·.size)
def u9 (P:Program) (t:TypeId):Option (List D) :=
 match P.info? t with
 | some i=>match i.zero with
  | some z=>cW z.cells.toList
  | none=>none
 | none=>none
def fP (P:Program):Nat→TypeId→List Nat
 | 0,_=>[]
 | d+1,t=>match P.underlying t with
  | some (.struct fs)=>fs.toList.flatMap fun f=>fP P d f.type
  | some (.array n e)=>(List.replicate n (fP P d e)).flatten
  | some (.slice e)=>[P.cellsOf e]
  | _=>[0]
def fS:List D→List Nat→List D
 | [],_=>[]
 | .slice _ _ n g::l,z::zs=>.slice (.own 0) z n g::fS l zs
 | d::l,zs=>d::fS l (zs.drop 1)
def aBI (z:Nat):D→D
 | .slice .full _ 0 g=>.slice .full z 0 g
 | d=>d
def fG:List D→List Nat→List D
 | [],_=>[]
 | d::l,[]=>aBI 0 d::fG l []
 | d::l,z::zs=>aBI z d::fG l zs
def sR (P:Program) (t:TypeId):Option (Bool×List D) :=
 match P.info? t with
 | some i=>match i.zero with
  | some (.agg cs)=>(cW cs.toList).map fun l=>(true,fG l (fP P 20 t))
  | some v=>(iD v).map fun d=>(false,fG [d] (fP P 20 t))
  | none=>none
 | none=>none
def aF5 (P:Program) (t:TypeId):Option (Bool×List D) :=
 match P.underlying t with
 | some (.map k e)=>match P.underlying k with
  | some .string=>sR P e
  | _=>none
 | _=>none
def aL1 (P:Program) (t:TypeId):TypeId :=
 match P.underlying t with
 | some (.map _ e)=>e
 | _=>t
section
variable (P:Program) (ft:FT) (np:Nat)
def trX:Operand→Option AX
 | .tmp t=>some (.t t)
 | .const v=>(ofValue v).map .c
 | .func f=>(ag ft f).map fun j=>.c (.fn j [])
 | .global _=>none
def kZ:List Operand→Option (List AX)
 | []=>some []
 | x::l=>match trX ft x,kZ l with
  | some a,some ays=>some (a::ays)
  | _,_=>none
def trZ (P:Program) (t:TypeId):AX→AX
 | .c (.agg l)=>.c (.agg (fG l (fP P 20 t)))
 | .c (.slice .full z 0 g)=>.c (.slice .full ((fP P 20 t).headD z) 0 g)
 | a=>a
def mM (P:Program):List Operand→List TypeId→Option (List AX)
 | [],_=>some []
 | x::l,ts=>match trX ft x,mM P l (ts.drop 1) with
  | some a,some ays=>some ((match x,ts with
   | .const (.slice none 0 0),t::_=>.c (.slice .full ((match P.underlying t with
    | some (.slice e)=>cA P e
    | _=>none).getD 0) 0 d8)
   | _,t::_=>trZ P t a
   | _,_=>a)::ays)
  | _,_=>none
def xJ:List (Option Operand)→Option (List AX)
 | []=>some []
 | none::l=>xJ l
 | some x::l=>match trX ft x,xJ l with
  | some a,some ays=>some (a::ays)
  | _,_=>none
def jL (place:Nat→Option (Nat×Nat)):List (Nat×Operand)→Option (List (Nat×Nat))
 | []=>some []
 | (i,_)::l=>match place i,jL place l with
  | some q,some r=>some (q::r)
  | _,_=>none
def lH:Operand→Bool
 | .const (.slice none 0 0)=>true
 | _=>false
def wE:Operand→Bool
 | .const (.pointer none)=>true
 | _=>false
def tY:Operand→Bool
 | .const (.map none)=>true
 | _=>false
def vF (op:BinOp) (isNil:Bool) (l:List AX):Option (AOp×List AX) :=
 match l with
 | [a,_]=>bif isNil then (match op with
  | .eql=>some (.isNilM false,[a])
  | .neq=>some (.isNilM true,[a])
  | _=>none) else none
 | _=>none
def yM (op:BinOp) (p isNil:Bool) (l:List AX):Option (AOp×List AX) :=
 match l with
 | [a,_]=>bif isNil then (match op with
  | .eql=>some (.isNil p false,[a])
  | .neq=>some (.isNil p true,[a])
  | _=>none) else none
 | _=>none
def aH0 (t:TypeId):Option Nat :=
 match P.underlying t with
 | some (.slice e)=>cA P e
 | _=>none
def lO (d:TypeDesc):Bool :=
 match d with
 | .slice _=>true
 | .string=>true
 | _=>false
def i7 (P:Program) (rec:TypeId→Option (List Nat)):List Field→Nat→Option (List Nat)
 | [],_=>some []
 | f :: l,at_ => if f.name ≠ "_" ∧ f.offset = at_ then (match rec f.type with
  | some m=>if cA P f.type=some m.length then (i7 P rec l (at_+m.length)).map (m++·) else none
  | none=>none) else none
def iH (P:Program):Nat→TypeId→Option (List Nat)
 | 0,_=>none
 | d+1,t=>match P.underlying t with
  | some (.struct fs)=>if P.stoodInHeld t then none else i7 P (iH P d) fs.toList 0
  | some (.array n e)=>match iH P d e with
   | some m=>if cA P e=some m.length then some (List.replicate n m).flatten else none
   | none=>none
  | some .bool=>some [1]
  | some (.int _)=>some [0]
  | some .string=>some [2]
  | _=>none
def aLD (P:Program) (fs:Array Field):Bool:=fs.toList.all fun f=>(cA P f.type).isSome
def eS:AOp→Bool
 | .call _ _ | .callv _=>true
 | _=>false
def aLG:AOp→Bool
 | .mapKeys _=>true
 | .keysSort _=>true
 | _=>false
def mS (o:AOp):Bool:=eS o || aLG o
def v7 (ty:TypeId) (x:Operand):Option (AOp×List AX) :=
 if lH x then (aH0 P ty).map fun z=>(.nilSl z,[]) else (trX ft x).map fun a=>(.move,[trZ P ty a])
def tJ (t:TypeId) (parts:Array (Nat×Operand)):Option (AOp×List AX) :=
 match P.underlying t,u9 P t,kZ ft (parts.toList.map (·.2)) with
 | some (.struct fs),some z,some l=>if aLD P fs then (jL (fun i=>match fs[i]? with
   | some f=>(cA P f.type).map fun n=>(f.offset,n)
   | none=>none) parts.toList).map fun ps=>(.build (fG z (fP P 20 t)) ps,l) else none
 | some (.array _ e),some z,some l=>match cA P e with
  | some n=>(jL (fun i=>some (i * n,n)) parts.toList).map fun ps=>(.build (fG z (fP P 20 t)) ps,l)
  | none=>none
 | _,_,_=>none
def iP (t:TypeId) (len:Nat) (parts:Array (Nat×Operand)):Option (AOp×List AX) :=
 match P.underlying t,kZ ft (parts.toList.map (·.2)) with
 | some (.slice e),some l=>match cA P e,u9 P e with
  | some n,some z=>if len * n≤16777216∧0 < n then (jL (fun i=>some (i * n,n)) parts.toList).map fun ps=>(.buildSlice n len (fG z (fP P 20 e)) ps,l) else none
  | _,_=>none
 | _,_=>none
def jS (s:TypeId) (x:Operand) (f:Nat):Option (AOp×List AX) :=
 match P.underlying s,trX ft x with
 | some (.struct fs),some x=>match fs[f]? with
  | some f=>match cA P f.type with
   | some n=>if n=0 then none else some (.fieldAddr f.offset,[x])
   | none=>none
  | none=>none
 | _,_=>none
def tU (s:TypeId) (x:Operand) (f:Nat):Option (AOp×List AX) :=
 match P.underlying s,trX ft x with
 | some (.struct fs),some x=>match fs[f]? with
  | some f=>match bY P f.type,cA P f.type with
   | some g,some n=>if g || n==1 then some (.field g f.offset n,[x]) else none
   | _,_=>none
  | none=>none
 | _,_=>none
def j7 (t:TypeId) (x i:Operand):Option (AOp×List AX) :=
 match P.underlying t,trX ft x,trX ft i with
 | some (.slice e),some x,some i=>(cA P e).map fun n=>(.indexAddr n none,[x,i])
 | some (.array len e),some x,some i=>(cA P e).map fun n=>(.indexAddr n (some len),[x,i])
 | _,_,_=>none
def tW (t:TypeId) (x i:Operand):Option (AOp×List AX) :=
 match P.underlying t,trX ft x,trX ft i with
 | some .string,some x,some i=>some (.indexStr,[x,i])
 | some (.array len e),some x,some i=>match bY P e,cA P e with
  | some g,some n=>if g || n==1 then some (.indexArr g n len,[x,i]) else none
  | _,_=>none
 | _,_,_=>none
def tM (t:TypeId) (x:Operand) (lo hi mx:Option Operand):Option (AOp×List AX) :=
 match P.underlying t,trX ft x,xJ ft [lo,hi,mx] with
 | some (.slice e),some a,some l=>if mx.isSome&&hi.isNone then none else (cA P e).map fun n=>(.sliceSl n lo.isSome hi.isSome mx.isSome,a::l)
 | some .string,some a,some l=>if mx.isSome then none else some (.sliceStr lo.isSome hi.isSome,a::l)
 | some (.array len e),some a,some l=>if lo.isNone&&hi.isNone&&mx.isNone then (cA P e).map fun n=>(.sliceArr n len np,[a]) else if mx.isNone&&cA P e==some 1 then some (.sliceObj len lo.isSome hi.isSome,a::l) else none
 | _,_,_=>none
def aGP (op:BinOp) (t:TypeId) (l:List AX):Option (AOp×List AX) :=
 match (if P.eqGuardType P.depth t then none else iH P 20 t),op with
 | some n,.eql=>if cA P t=some n.length then some (.eqAgg false n,l) else none
 | some n,.neq=>if cA P t=some n.length then some (.eqAgg true n,l) else none
 | _,_=>none
def aE7 (op:BinOp) (t:TypeId) (x y:Operand):Option (AOp×List AX) :=
 match kZ ft [x,y] with
 | some l=>match P.underlying t with
  | some (.struct _)=>aGP P op t l
  | some (.array _ _)=>aGP P op t l
  | some .bool=>match op with
   | .eql=>some (.binB false,l)
   | .neq=>some (.binB true,l)
   | _=>none
  | some .string=>some (.bin op,l)
  | some (.int _)=>some (.bin op,l)
  | some (.slice _)=>yM op false (lH y) l
  | some (.pointer _)=>yM op true (wE y) l
  | some (.map _ _)=>vF op (tY y) l
  | _=>none
 | _=>none
def zQ (src dst:TypeId) (x:Operand):Option (AOp×List AX) :=
 match P.underlying src,P.underlying dst,trX ft x with
 | some (.int _),some (.int k),some x=>some (.conv (.int k),[x])
 | some .string,some .string,some x=>some (.conv .same,[x])
 | some (.int _),some .string,some x=>some (.conv .r2s,[x])
 | some .string,some (.slice e),some x=>(match P.underlying e with
  | some (.int .u8)=>some (.conv .s2b,[x])
  | _=>none)
 | some (.slice e),some .string,some x=>(match P.underlying e with
  | some (.int .u8)=>some (.conv .b2s,[x])
  | _=>none)
 | _,_,_=>none
def lB (fn:Fn) (first caps:Array Operand):Option (AOp×List AX) :=
 match fn with
 | .func f=>if first.isEmpty then (match ag ft f,kZ ft caps.toList with
  | some j,some cs=>some (.mkfunc j np,cs)
  | _,_=>none) else none
 | _=>none
def jY (t:TypeId) (l c:Operand):Option (AOp×List AX) :=
 match P.underlying t with
 | some (.slice e)=>match P.info? e,u9 P e,kZ ft [l,c] with
  | some i,some z,some l=>if 0 < i.size∧0 < i.bytes∧z.length=i.size then some (.makeSlice z i.bytes,l) else none
  | _,_,_=>none
 | _=>none
def aB7 (x:Operand) (t:TypeId):Option (AOp×List AX) :=
 match P.underlying t,trX ft x with
 | some (.slice _),some x=>some (.len false,[x])
 | some .string,some x=>some (.len true,[x])
 | some (.map _ _),some x=>some (.mapLen,[x])
 | _,_=>none
def nF (x y:Operand) (t u:TypeId):Option (AOp×List AX) :=
 match P.underlying t,P.underlying u,mM ft P [x,y] [t,u] with
 | some (.slice e),some du,some l=>(match lO du,P.info? e,u9 P e with
  | true,some i,some z=>if 0 < i.size∧0 < i.bytes∧z.length=i.size then some (.append i.size i.bytes,l) else none
  | _,_,_=>none)
 | _,_,_=>none
def qS (x y:Operand) (t:TypeId):Option (AOp×List AX) :=
 match aF5 P t,trX ft x,trX ft y with
 | some _,some a,some b=>some (.mapDel,[a,b])
 | _,_,_=>none
def kO (b:Builtin) (args:List Operand) (ts:List TypeId):Option (AOp×List AX) :=
 match b,args,ts with
 | .len,[x],[t]=>aB7 P ft x t
 | .append,[x,y],[t,u]=>nF P ft x y t u
 | .delete,[x,y],[t,_]=>qS P ft x y t
 | .max,[x,y],_=>(kZ ft [x,y]).map fun l=>(.mnmx true,l)
 | .min,[x,y],_=>(kZ ft [x,y]).map fun l=>(.mnmx false,l)
 | _,_,_=>none
def aAH (P:Program) (rows:Bool) (ts:List TypeId):Bool:=ts.any fun t=>match P.underlying t with
 | some (.pointer _)=>true
 | some (.slice _)=>rows
 | _=>false
def vS (P:Program) (rows:Bool) (f:FuncId) (ts:List TypeId):Bool:=aAH P rows ts || match P.funcs[f]? with
 | some fn=>aAH P false fn.params.toList
 | none=>false
def gOf (j:Nat):Nat:=j / 1000000 % 1000
def gL (l:Bool) (j:Nat):AOp:=bif Nat.ble 1000000000 j then (bif Nat.ble 2000000000 j then .keysSort (gOf j) else .mapKeys (gOf j)) else .call l j
def m4 (c:Call):Option (AOp×List AX) :=
 match c.callee with
 | .value (.func f)=>match ag ft f,mM ft P c.args.toList c.argTypes.toList with
  | some j,some ays=>some (gL (vS P (Nat.ble 1000000 np) f c.argTypes.toList) j,ays)
  | _,_=>none
 | .value (.tmp t)=>(kZ ft c.args.toList).map fun ays=>(.callv (aAH P (Nat.ble 1000000 np) c.argTypes.toList),.t t::ays)
 | .builtin b=>kO P ft b c.args.toList c.argTypes.toList
 | _=>none
def zT (t:TypeId) (x:Operand):Option (AOp×List AX) :=
 match trX ft x,bY P t,cA P t with
 | some a,some g,some n=>if g || n==1 then some (.load g n,[a]) else none
 | _,_,_=>none
def tQ (t:TypeId) (x y:Operand):Option (AOp×List AX) :=
 match trX ft x,trX ft y,cA P t with
 | some a,some x,some n=>some (.store n,[a,trZ P t x])
 | _,_,_=>none
def tN (t:TypeId):Option (AOp×List AX) :=
 match u9 P t,cA P t with
 | some cells,some n=>if cells.length=n then some (.alloc (fS cells (fP P 20 t)),[]) else none
 | _,_=>none
def zM (t:TypeId) (x:Operand):Option (AOp×List AX) :=
 match P.underlying t,trX ft x with
 | some .string,some a=>some (.iterStr,[a])
 | some (.map k _),some a=>(match P.underlying k with
  | some .string=>some (.mapWalk,[a])
  | _=>none)
 | _,_=>none
def aHN (t:TypeId):Bool :=
 match P.underlying t with
 | some .string=>true
 | _=>false
def aMB (t:TypeId):Bool :=
 match P.underlying t with
 | some (.map k _)=>aHN P k
 | _=>false
def aK2 (k:TypeId):Bool :=
 match P.underlying k with
 | some (.struct fs)=>(match fs.toList with
  | [f,g] => aHN P f.type && aHN P g.type && f.name != "_" && g.name != "_" && f.offset == 0 && g.offset == 1 && !(P.stoodInHeld k)
  | _=>false)
 | _=>false
def r6 (t:TypeId):Bool :=
 match P.underlying t with
 | some (.map k e)=>aK2 P k&&aMB P e&&(match sR P e with
  | some (false,[.nilm])=>true
  | _=>false)
 | _=>false
def uA (m k x:Operand):Option (AOp×List AX) :=
 match trX ft m,trX ft k,trX ft x with
 | some a,some b,some c=>some (.famSet,[a,b,c])
 | _,_,_=>none
def uY (m k:Operand) (comma:Bool):Option (AOp×List AX) :=
 match trX ft m,trX ft k,comma with
 | some a,some b,false=>some (.famGet,[a,b])
 | _,_,_=>none
def kQ (t:TypeId) (m k x:Operand):Option (AOp×List AX) :=
 match aF5 P t,trX ft m,trX ft k,trX ft x with
 | some _,some a,some b,some c=>some (.mapSet,[a,b,trZ P (aL1 P t) c])
 | _,_,_,_=>none
def qJ (t:TypeId) (m k:Operand) (comma:Bool):Option (AOp×List AX) :=
 match aF5 P t,trX ft m,trX ft k with
 | some (g,z),some a,some b=>some (.mapGet comma g z,[a,b])
 | _,_,_=>none
def n4 (t:TypeId) (r:Option Operand):Option (AOp×List AX) :=
 match aF5 P t,r with
 | some (g,z),none=>some (.mkMap g (aET z),[])
 | _,_=>none
def xT (o:Oper):Option (AOp×List AX) :=
 match o.op with
 | .move x=>v7 P ft o.type x
 | .assign x=>v7 P ft o.type x
 | .pick c a b=>(kZ ft [c,a,b]).map fun l=>(.pick,l)
 | .alloc t=>tN P t
 | .box _ x=>(trX ft x).map fun a=>(.box,[a])
 | .build t parts=>tJ P ft t parts
 | .buildSlice t len parts=>iP P ft t len parts
 | .load t a=>zT P ft t a
 | .store t a x=>tQ P ft t a x
 | .fieldAddr s x f=>jS P ft s x f
 | .field s x f=>tU P ft s x f
 | .indexAddr t x i=>j7 P ft t x i
 | .index t x i=>tW P ft t x i
 | .slice t x lo hi mx=>tM P ft np t x lo hi mx
 | .binOp op t x y _=>aE7 P ft op t x y
 | .unOp op _ x=>(trX ft x).map fun a=>(.un op,[a])
 | .convert src dst x=>zQ P ft src dst x
 | .makeFunc fn first caps=>lB ft np fn first caps
 | .makeSlice t l c=>jY P ft t l c
 | .nilCheck x=>(trX ft x).map fun a=>(.nilCheck,[a])
 | .extract x i=>(trX ft x).map fun a=>(.extract i,[a])
 | .range t x=>zM P ft t x
 | .makeMap t r=>bif r6 P t&&r.isNone then some (.mkMap false false,[]) else n4 P t r
 | .mapUpdate t m k x=>bif r6 P t then uA ft m k x else kQ P ft t m k x
 | .insert t m k x=>kQ P ft t m k x
 | .lookup t m k c=>bif r6 P t then uY ft m k c else qJ P ft t m k c
 | .next x isString=>(trX ft x).map fun a=>(bif isString then .nextStr else .mapNext,[a])
 | .entry x=>(trX ft x).map fun a=>(.mapEntry,[a])
 | .call c=>m4 P ft np c
 | _=>none
def z6 (o:Option (AOp×List AX)):Option (AOp×List AX) :=
 match o with
 | some p=>some p
 | none=>some (.stuck,[])
def aDE (o:Oper):Option (AOp×List AX) :=
 match o.op with
 | .call c=>z6 (m4 P ft np c)
 | _=>match xT P ft np o with
  | some p=>bif mS p.1 then none else some p
  | none=>some (.stuck,[])
def bF:AOp→Nat
 | .alloc cells=>1+cells.length
 | .mapGet _ true z=>1+z.length
 | .call _ _=>4
 | .callv _=>4
 | .mapKeys _=>4
 | .keysSort _=>4
 | _=>1
def uB:D→Bool
 | .agg _=>false
 | .tup _=>false
 | .ptr _ _=>false
 | .slice (.own _) _ _ _=>false
 | .mref _=>false
 | .msl _ _ _=>false
 | .rptr _ _ _ _ _=>false
 | .oref _ _ _=>false
 | .oagg _ _ _ _=>false
 | .osl _ _ _=>false
 | .kseq _ _ _ _=>false
 | .mit _ _ _ _ _ _=>false
 | _=>true
def zW:D→Bool
 | .agg l=>l.all uB
 | d=>uB d
def mH:AX→Bool
 | .t _=>true
 | .c d=>zW d
def jO:AOp→Bool
 | .alloc cells=>cells.all fun d=>match d with
  | .slice _ _ _ _=>true
  | d=>uB d
 | .build z _=>z.all uB
 | .mapGet _ g z=>z.all uB&&(g || Nat.beq z.length 1)
 | _=>true
def trG (ops:Array Oper):Option (Nat×Bool)→Option (Option (Nat×Bool))
 | none=>some none
 | some (j,w)=>match (ops[j]?).bind (·.dst) with
  | some d=>some (some (d,w))
  | none=>none
def wD (ops:Array Oper):List Oper→Nat→Option (List AO×Nat)
 | [],at_=>some ([],at_)
 | o::l,at_=>match aDE P ft np o,trG ops o.guard with
  | some (a,xs),some g=>bif jO a&&xs.all mH then (match wD ops l (at_+bF a) with
   | some (ays,n)=>some ({ dst:=o.dst,id:=at_,op:=a,args:=xs,guard:=g }::ays,n)
   | none=>none) else none
  | _,_=>none
end
def s9:AOp→Bool
 | .alloc _ | .box | .load _ _ | .store _ | .sliceArr _ _ _ | .append _ _ | .mkfunc _ _ | .call _ _ | .callv _ | .makeSlice _ _ | .nilSl _ | .iterStr | .nextStr | .mkMap _ _ | .mapLen | .mapSet | .mapGet _ _ _ | .mapDel | .mapWalk | .mapNext | .mapEntry | .sliceObj _ _ _ | .famGet | .famSet | .mapKeys _ | .keysSort _=>false
 | _=>true
def aCG:AOp→Bool
 | .store _ | .sliceArr _ _ _ | .mkfunc _ _ | .call true _ | .callv true | .nextStr | .mapSet | .mapDel | .mapNext | .famSet=>true
 | .mapGet _ true z=>aET z
 | _=>false
def jE:AOp→Bool
 | .mapNext=>true
 | _=>false
def o9:AOp→Bool
 | .mapNext=>true
 | .mapEntry=>true
 | _=>false
def jB:AOp→Bool
 | .append _ _=>true
 | _=>false
def kA (op:AOp) (id:Nat):Bool:=aCG op || (jB op&&Nat.ble 1000000 id)
def AX.slots:List AX→List Nat
 | []=>[]
 | .t i::l=>i::AX.slots l
 | .c _::l=>AX.slots l
def AO.reads (o:AO):List Nat :=
 match o.guard with
 | some (j,_)=>j::AX.slots o.args
 | none=>AX.slots o.args
def AO.writes (o:AO):List Nat :=
 match o.dst with
 | some d=>[d]
 | none=>[]
def mC (a b:List Nat):Bool:=a.any fun i=>b.any fun j=>i==j
def yE (a b:AO):Bool :=
 !(o9 a.op)&&!(o9 b.op)&&!(mC a.writes b.reads)&&!(mC a.writes b.writes)&&!(mC a.reads b.writes) &&
 !(eS a.op&&eS b.op)&&!(jB a.op&&jB b.op)&&(s9 a.op || s9 b.op || (!kA a.op a.id&&!kA b.op b.id))
def jC (ops:Array Oper):Nat→Nat→Nat→Bool
 | 0,_,_=>false
 | f+1,i,q=>match ops[i]? with
  | some o=>o.after.toList.any fun e=>Region.binds .any e&&(e.on==q || (decide (q < e.on)&&jC ops f e.on q))
  | none=>false
def fM:List Oper→Nat→Bool
 | [],_=>true
 | o::l,i=>(o.after.toList.all fun e=>!Region.binds .any e || decide (e.on < i))&&fM l (i+1)
def vK (ops:Array Oper) (ays:List AO):Bool :=
 fM ops.toList 0&&ays.zipIdx.all fun (b,j)=>ays.zipIdx.all fun (a,i)=>!(decide (i < j)) || yE a b || jC ops ops.size j i
def bef:List Nat→Nat→Nat→Bool
 | [],_,_=>false
 | a::l,x,y=>bif Nat.beq a x then l.any (Nat.beq y) else bef l x y
def hJ (ays:List AO) (i j:Nat):Bool :=
 match ays[i]?,ays[j]? with
 | some a,some b=>yE a b
 | _,_=>true
def iT (ops:Array Oper) (ays:List AO):List (Nat×Nat) :=
 (List.range ops.size).flatMap fun j=>((List.range ops.size).filter fun i=>decide (i < j)&&!hJ ays i j&&!jC ops ops.size j i).map fun i=>(i,j)
def aI4:Nat→List (List Bool)
 | 0=>[[]]
 | n+1=>(aI4 n).flatMap fun l=>[false::l,true::l]
def m5:List (Nat×Nat)→List Bool→Nat→Nat→Bool
 | (i,j)::c,b::l,x,y=>bif Nat.beq i x&&Nat.beq j y then b else m5 c l x y
 | _,_,_,_=>false
def p4 (ops:Array Oper) (ays:List AO) (C:List (Nat×Nat)) (S:List Bool) (a b:Nat):Bool :=
 bif Nat.blt a b then !hJ ays a b&&(jC ops ops.size b a || !m5 C S a b)
 else Nat.blt b a&&(!hJ ays b a&&!jC ops ops.size a b&&m5 C S b a)
def tR (pr:Nat→Nat→Bool):Nat→List Nat→List Nat×List Nat
 | 0,left=>([],left)
 | f+1,left=>match left.find? fun i=>left.all fun j=>!pr j i with
  | none=>([],left)
  | some i=>let r:=tR pr f (left.filter fun j=>!Nat.beq j i); (i::r.1,r.2)
def n5:List Nat→Bool
 | []=>true
 | a::l=>!(l.any (Nat.beq a))&&n5 l
def aE6 (ops:Array Oper) (ays:List AO) (C:List (Nat×Nat)) (S:List Bool) (r:List Nat×List Nat):Bool :=
 match r.2 with
 | []=>(List.range ops.size).all (fun i=>r.1.any (Nat.beq i))&&n5 r.1&&r.1.all (fun i=>Nat.blt i ops.size)&&(List.range ops.size).all fun a=>(List.range ops.size).all fun b=>!p4 ops ays C S a b || bef r.1 a b
 | left=>left.all (fun i=>Nat.blt i ops.size)&&left.all fun i=>left.any fun j=>p4 ops ays C S j i
def aAE (ops:Array Oper) (ays:List AO):List (List Bool×(List Nat×List Nat)) :=
 let C:=iT ops ays
 (aI4 C.length).map fun S=>(S,tR (p4 ops ays C S) ops.size (List.range ops.size))
def kT (ops:Array Oper) (ays:List AO):Bool :=
 fM ops.toList 0&&Nat.ble (iT ops ays).length 6&&(aAE ops ays).all fun r=>aE6 ops ays (iT ops ays) r.1 r.2
def qZ (ops:Array Oper) (ays:List AO):List (List AO) :=
 ((aAE ops ays).filter fun r=>r.2.2.isEmpty).map fun r=>r.2.1.filterMap fun i=>ays[i]?
section
variable (P:Program) (ft:FT) (np:Nat)
inductive lT:Type 1 where
 | unroll (u:Nat) (kill mD kL:List Nat)
 | tell (α:Type) (S:α→Tm)
structure TS:Type 1 where
 /-- for each loop,in the text's order -/
 kills:List lT
 /-- behind the first part of which seq's (counted in the text's order) the state is told anew -/
 cuts:List (Nat×Σ α:Type,α→Tm)
 at_:Nat
 seqs:Nat
def p8 (k j:Nat):Bool:=Nat.ble 1000000 j&&Nat.blt j 1000000000000&&Nat.beq (j % 1000000) k
def vG (k j:Nat):Bool:=Nat.ble 1000000000000 j&&Nat.blt j 2000000000000&&Nat.beq (j % 1000000) k
def aG6 (k j:Nat):Bool:=Nat.ble 2000000000000 j&&Nat.blt j 3000000000000&&Nat.beq (j % 1000000) k
def zO (k j:Nat):Bool:=Nat.ble 3000000000000 j&&Nat.beq (j % 1000000) k
def aAA (j:Nat):Nat:=(j / 1000000) % 1000000
def aKX (k:Nat) (l:List (Nat×Σ α:Type,α→Tm)):List (Nat×Σ α:Type,α→Tm) :=
 match l with
 | (j,_)::r=>bif Nat.beq j k || Nat.beq j (100000+k) || p8 k j || vG k j || aG6 k j || zO k j then r else l
 | []=>[]
def m7 (k:Nat) (l:List (Nat×Σ α:Type,α→Tm)) (n:Nat):Nat :=
 match l with
 | (j,_)::_=>bif p8 k j || vG k j then n+1 else n
 | []=>n
def aG9 (np k:Nat) (l:List (Nat×Σ α:Type,α→Tm)) (n:Nat) (x y:AC):AC :=
 match l with
 | (j,c)::_=>bif Nat.beq j k then .seq x (.seq (.cut c.1 c.2) y) else bif Nat.beq j (100000+k) then .joinT c.1 c.2 x y else bif p8 k j then .seq x (.seq (.adopt n ((j / 1000000 - 1) / 1000) ((j / 1000000 - 1) % 1000)) y) else bif vG k j then .seq x (.seq (.thaw n (aAA j)) y) else bif aG6 k j then .seq x (.seq (.frz (aAA j)) y) else bif zO k j then .seq x (.seq (.toObj np (aAA j / 1000) (aAA j % 1000)) y) else .seq x y
 | []=>.seq x y
def trC:Code→TS→Option (AC×TS)
 | .skip,s=>some (.skip,s)
 | .region _ ops draw,s=>match wD P ft np ops ops.toList s.at_ with
  | some (ays,n)=>bif draw&&!vK ops ays then (bif kT ops ays then some (.orders (qZ ops ays),{ s with at_:=n }) else none) else some (.region ays,{ s with at_:=n })
  | none=>none
 | .seq a b,s=>match trC a { s with seqs:=s.seqs+1 } with
  | some (x,s1)=>match trC b { s1 with cuts:=aKX s.seqs s1.cuts,at_:=m7 s.seqs s1.cuts s1.at_ } with
   | some (y,s2)=>some (aG9 np s.seqs s1.cuts s1.at_ x y,s2)
   | none=>none
  | none=>none
 | .cond c t e,s=>match trX ft c,trC t s with
  | some c,some (x,s)=>match trC e s with
   | some (y,s)=>some (.cond c x y,s)
   | none=>none
  | _,_=>none
 | .block id c,s=>match trC c s with
  | some (x,s)=>some (.block id x,s)
  | none=>none
 | .loop c,s=>match s.kills with
  | .unroll u k kh kt::r=>match trC c { s with kills:=r } with
   | some (x,s')=>some (.loop u k kh kt s.at_ s'.at_ x,s')
   | none=>none
  | .tell α S::r=>match trC c { s with kills:=r } with
   | some (x,s')=>some (.loopT α S s.at_ s'.at_ x,s')
   | none=>none
  | []=>none
 | .exit id,s=>some (.exit id,s)
 | .ret,s=>some (.ret,s)
 | .scope c,s=>trC c s
 | .label _,s=>some (.skip,s)
 | .goto _,s=>some (.stuck,s)
 | .rangeFunc ..,s=>some (.stuck,s)
 | .refuse ..,s=>some (.stuck,s)
def aEF (rv:ResultVar):Option RV :=
 match rv with
 | .tmp t=>some (.tmp t)
 | .cell a t=>match bY P t,cA P t with
  | some g,some n=>if g || n==1 then some (.cell a g n) else none
  | _,_=>none
def qB:List ResultVar→Option (List RV)
 | []=>some []
 | r::l=>match aEF P r,qB l with
  | some a,some ays=>some (a::ays)
  | _,_=>none
def aHR (ptrs:Nat) (cuts:List (Nat×Σ α:Type,α→Tm)):Nat :=
 match cuts with
 | (j,_)::_=>bif Nat.beq j 999999&&Nat.ble ptrs 1000000 then 1000000 else ptrs
 | []=>ptrs
def aHJ (cuts:List (Nat×Σ α:Type,α→Tm)):List (Nat×Σ α:Type,α→Tm) :=
 match cuts with
 | (j,c)::r=>bif Nat.beq j 999999 then r else (j,c)::r
 | []=>[]
def trF (ptrs:Nat) (kills:List lT) (cuts:List (Nat×Σ α:Type,α→Tm)) (fn:Func):Option AF :=
 match fn.body with
 | some c=>match trC P ft (aHR ptrs cuts) c { kills:=kills,cuts:=aHJ cuts,at_:=aHR ptrs cuts,seqs:=0 },qB P fn.results.toList with
  | some (b,_),some rs=>some { body:=b,results:=rs,ptrs:=ptrs,more:=fn.ntmps - (fn.params.size+fn.nfree) }
  | _,_=>none
 | none=>none
end
theorem s4 (l:Bool) (j:Nat):mS (gL l j)=true:=by
 unfold gL
 cases Nat.ble 1000000000 j <;> cases Nat.ble 2000000000 j <;> rfl
abbrev Sg:=Nat→Nat→Option Value
inductive Rp (σ:Sg):Value→D→Prop
 | dead (v:Value):Rp σ v .dead
 | int (k:IntKind) (n:Int):Rp σ (.int k n) (.int k n)
 | bool (b:Bool):Rp σ (.bool b) (.bool b)
 | str (s:ByteArray):Rp σ (.string s) (.str s)
 | nilp:Rp σ (.pointer none) .nilp
 | ubool (b:Bool):Rp σ (.bool b) .ubool
 | nilm:Rp σ (.map none) .nilm
 | slice (a:Option Addr) (n c:Nat) (t:Tag) (sz:Nat) (g:Nat→List D) (b o:Nat) (val:Nat→Nat→Value) :
   n≤c→(n≠0→a=some ⟨b,o,none⟩)→(∀ i,i < n→(g i).length=sz)→(∀ i j,i < n→j < sz→σ b (o+i * sz+j)=some (val i j)) →
   (∀ i j,i < n→j < sz→Rp σ (val i j) (nth (g i) j .dead).pure1)→Rp σ (.slice a n c) (.slice t sz n g)
def EAt (σ:Sg) (b o:Nat) (l:List D):Prop:=∀ j,j < l.length→∃ v,σ b (o+j)=some v∧Rp σ v (nth l j .dead).pure1
structure Fo where
 id:Nat
 q:Nat
 ob:Obj
structure Og where
 σ:Sg
 η:Nat→Nat→Option Value
 φ:Nat→Option Fo
instance:CoeFun Og (fun _=>Sg):=⟨Og.σ⟩
structure Rs where
 id:Nat
 i:Nat
 q:Nat
 n:Nat
 z:Nat
 c:Nat
structure Gh where
 /-- the cells that never change any more -/
 σ:Sg
 /-- a variable's block -/
 β:Nat→Nat
 /-- a token's slice -/
 ρ:Nat→Value
 /-- a row's header while it has n elements -/
 η:Nat→Nat→Option Value
 /-- what is reserved for the slices in a map's entries -/
 γ:Nat→Option Rs
 /-- the objects' blocks -/
 φ:Nat→Option Fo
def TagR (G:Gh) (tk:Nat→Option (Nat×Nat)) (v:Value):D→Prop
 | .slice .full _ n _=>∃ a,v=.slice a n n
 | .slice (.own i) _ n _=>∀ z m,tk i=some (z,m)→n≤m∧(n=m→v=G.ρ i)
 | _=>True
inductive Re (σ:Sg):Value→D→Prop
 | pure {v:Value} {d:D}:Rp σ v d→d=d.pure1→Re σ v d
 | eptr (b o:Nat) (l:List D):EAt σ b o l→Re σ (.pointer (some ⟨b,o,none⟩)) (.eptr l)
def CellsV (σ:Sg) (agg:Bool) (v:Value) (ds:List D):Prop :=
 (agg=true∧∃ cs,v=.agg cs∧cs.size=ds.length∧∀ j,j < ds.length→Rp σ (cs.getD j undef) (nth ds j .dead).pure1)∨(agg=false∧ds.length=1∧Rp σ v (nth ds 0 .dead).pure1)
inductive Rc (F:Nat→FuncId) (G:Gh) (tk:Nat→Option (Nat×Nat)):Value→D→Prop
 | pure {v:Value} {d:D}:Rp G.σ v d→TagR G tk v d→Rc F G tk v d
 | ptr (id off:Nat):Rc F G tk (.pointer (some ⟨G.β id,off,none⟩)) (.ptr id off)
 | eptr (b o:Nat) (l:List D):EAt G.σ b o l→Rc F G tk (.pointer (some ⟨b,o,none⟩)) (.eptr l)
 | fn (f:Nat) (cap:Array Value) (l:List D):cap.size=l.length→(∀ j,j < l.length→Re G.σ (cap.getD j undef) (nth l j .dead))→Rc F G tk (.func (.func (F f)) #[] cap) (.fn f l)
 /-- a map's entries: keys and values,side by side -/
 | mp (vk vv:Array Value) (va:Bool) (n:Nat) (ks:Nat→ByteArray) (vs:Nat→List D):vk.size=n→vv.size=n→(∀ i,i < n→vk.getD i undef=.string (ks i))→(∀ i,i < n→CellsV G.σ va (vv.getD i undef) (vs i))→Rc F G tk (.tuple #[.tuple vk,.tuple vv]) (.mp va n ks vs)
inductive Ra (F:Nat→FuncId) (G:Gh) (tk:Nat→Option (Nat×Nat)):Value→D→Prop
 | cell {v:Value} {d:D}:Rc F G tk v d→Ra F G tk v d
 | agg (cs:Array Value) (l:List D):cs.size=l.length→(∀ j,j < l.length→Rc F G tk (cs.getD j undef) (nth l j .dead))→Ra F G tk (.agg cs) (.agg l)
inductive Rt (F:Nat→FuncId) (G:Gh) (tk:Nat→Option (Nat×Nat)):Value→D→Prop
 | cell {v:Value} {d:D}:Rc F G tk v d→Rt F G tk v d
 | agg (cs:Array Value) (l:List D):cs.size=l.length→(∀ j,j < l.length→Rp G.σ (cs.getD j undef) (nth l j .dead)∧nth l j .dead=(nth l j .dead).pure1)→Rt F G tk (.agg cs) (.agg l)
def RefO (G:Gh) (id j:Nat) (b:Bool) (v:Value):Prop :=
 (b=true∧v=.map none)∨(b=false∧∃ blk ob,v=.map (some blk)∧G.φ blk=some ⟨G.β id,j+1,ob⟩)
inductive Rd (F:Nat→FuncId) (G:Gh) (tk:Nat→Option (Nat×Nat)):Value→D→Prop
 | any {v:Value} {d:D}:Ra F G tk v d→Rd F G tk v d
 | tup (vs:Array Value) (l:List D):vs.size=l.length→(∀ j,j < l.length→Rt F G tk (vs.getD j undef) (nth l j .dead))→Rd F G tk (.tuple vs) (.tup l)
 | mref (id:Nat):Rd F G tk (.map (some (G.β id))) (.mref id)
 | msl (id z n:Nat) (a:Option Addr) (c:Nat):G.η id n=some (.slice a n c)→n≤c→(n≠0→∃ b,a=some ⟨b,0,none⟩)→Rd F G tk (.slice a n c) (.msl id z n)
 | rptr (id z n i off b c:Nat):G.η id n=some (.slice (some ⟨b,0,none⟩) n c)→i < n→Rd F G tk (.pointer (some ⟨b,i * z+off,none⟩)) (.rptr id z n i off)
 | oref (id j:Nat) (b:Bool) (v:Value):RefO G id j b v→Rd F G tk v (.oref id j b)
 | oagg (id off m:Nat) (nl:Nat→Bool) (cs:Array Value):cs.size=m→(∀ i,i < m→RefO G id (off+i) (nl (off+i)) (cs.getD i undef))→Rd F G tk (.agg cs) (.oagg id off m nl)
 | osl (id off n c:Nat) (a:Option Addr):n≤c→(n≠0→a=some ⟨G.β id,off,none⟩)→Rd F G tk (.slice a n c) (.osl id off n)
 | kseq (g id j:Nat) (b:Bool) (bx:Nat) (mv:Value):RefO G id j b mv→G.σ bx 0=some mv→Rd F G tk (.func (.func (F g)) #[] #[.pointer (some ⟨bx,0,none⟩)]) (.kseq g id j b)
section mono
variable {F:Nat→FuncId} {G G':Gh} {tk tk':Nat→Option (Nat×Nat)} {σ σ':Sg}
def SgLe (σ σ':Sg):Prop:=∀ b o v,σ b o=some v→σ' b o=some v
theorem SgLe.refl (σ:Sg):SgLe σ σ:=fun _ _ _ h=>h
theorem SgLe.trans {a b c:Sg} (h:SgLe a b) (k:SgLe b c):SgLe a c:=fun _ _ _ x=>k _ _ _ (h _ _ _ x)
theorem Rp.mono (h:SgLe σ σ') {v:Value} {d:D} (r:Rp σ v d):Rp σ' v d:=by
 induction r with
 | dead v=>exact .dead v
 | int k n=>exact .int k n
 | bool b=>exact .bool b
 | str s=>exact .str s
 | nilp=>exact .nilp
 | ubool b=>exact .ubool b
 | nilm=>exact .nilm
 | slice a n c t sz g b o val h1 h2 h3 h4 _ ih=>exact .slice a n c t sz g b o val h1 h2 h3 (fun i j hi hj=>h _ _ _ (h4 i j hi hj)) ih
theorem EAt.mono (h:SgLe σ σ') {b o:Nat} {l:List D} (r:EAt σ b o l):EAt σ' b o l:=fun j hj =>
 let ⟨v,h1,h2⟩:=r j hj
 ⟨v,h _ _ _ h1,h2.mono h⟩
theorem Re.mono (h:SgLe σ σ') {v:Value} {d:D} (r:Re σ v d):Re σ' v d:=by
 cases r with
 | pure h1 h2=>exact .pure (h1.mono h) h2
 | eptr b o l h1=>exact .eptr b o l (h1.mono h)
theorem CellsV.mono (h:SgLe σ σ') {a:Bool} {v:Value} {ds:List D} (r:CellsV σ a v ds):CellsV σ' a v ds:=by
 rcases r with ⟨h1,cs,h2,h3,h4⟩ | ⟨h1,h2,h3⟩
 ·exact .inl ⟨h1,cs,h2,h3,fun j hj=>(h4 j hj).mono h⟩
 ·exact .inr ⟨h1,h2,h3.mono h⟩
structure Keeps (lo hi:Nat) (G G':Gh) (tk tk':Nat→Option (Nat×Nat)):Prop where
 σ:SgLe G.σ G'.σ
 β:∀ id,¬(lo≤id∧id < hi)→G'.β id=G.β id
 tok:∀ i z m,¬(lo≤i∧i < hi)→tk' i=some (z,m)→∃ z0 m0,tk i=some (z0,m0)∧m0≤m∧(m0=m→G'.ρ i=G.ρ i)
 row:∀ id n v,¬(lo≤id∧id < hi)→G.η id n=some v→G'.η id n=some v
 obj:∀ b x,G.φ b=some x→∃ o,G'.φ b=some ⟨x.id,x.q,o⟩
theorem Keeps.refl (lo hi:Nat) (G:Gh) (tk:Nat→Option (Nat×Nat)):Keeps lo hi G G tk tk :=
 ⟨SgLe.refl _,fun _ _=>rfl,fun _ z m _ h=>⟨z,m,h,Nat.le_refl _,fun _=>rfl⟩,fun _ _ _ _ h=>h,fun _ x h=>⟨x.ob,h⟩⟩
theorem bC {lo hi j:Nat} (h:(Nat.ble lo j&&Nat.blt j hi)=false):¬(lo≤j∧j < hi):=by
 rintro ⟨h1,h2⟩
 have e1:Nat.ble lo j=true:=by rw [Nat.ble_eq]; exact h1
 have e2:Nat.blt j hi=true:=by rw [Nat.blt_eq]; exact h2
 rw [e1,e2] at h
 cases h
theorem TagR.keep {lo hi:Nat} (k:Keeps lo hi G G' tk tk') {v:Value} {d:D} (hn:d.names1 lo hi=false) (h:TagR G tk v d):TagR G' tk' v d:=by
 cases d with
 | slice t z n g =>
  cases t with
  | ro=>trivial
  | full=>exact h
  | own i =>
   intro z m hz
   obtain ⟨z0,m0,e1,e2,e3⟩:=k.tok i z m (bC hn) hz
   obtain ⟨h1,h2⟩:=h z0 m0 e1
   refine ⟨Nat.le_trans h1 e2,fun hnm=>?_⟩
   have:m0=m:=by omega
   rw [e3 this]
   exact h2 (by omega)
 | _=>trivial
theorem Rc.keep {lo hi:Nat} (k:Keeps lo hi G G' tk tk') {v:Value} {d:D} (hn:d.names1 lo hi=false) (h:Rc F G tk v d):Rc F G' tk' v d:=by
 cases h with
 | pure h1 h2=>exact .pure (h1.mono k.σ) (h2.keep k hn)
 | ptr id off=>rw [← k.β id (bC hn)]; exact .ptr id off
 | eptr b o l h1=>exact .eptr b o l (h1.mono k.σ)
 | fn f cap l h1 h2=>exact .fn f cap l h1 fun j hj=>(h2 j hj).mono k.σ
 | mp vk vv va n ks vs h1 h2 h3 h4=>exact .mp vk vv va n ks vs h1 h2 h3 fun i hi=>(h4 i hi).mono k.σ
theorem dK {α:Type} (l:List α) (d:α):∀ {j:Nat} (h:j < l.length),nth l j d=l[j]:=by
 induction l with
 | nil=>intro j h; simp at h
 | cons a l ih =>
  intro j h
  cases j with
  | zero=>rfl
  | succ j=>simp only [nth]; rw [ih (by simpa using h)]; rfl
theorem iE {α:Type} (l:List α) (d:α):∀ {j:Nat} (_:l.length≤j),nth l j d=d:=by
 induction l with
 | nil=>intro j _; rfl
 | cons a l ih =>
  intro j h
  cases j with
  | zero=>simp at h
  | succ j=>simp only [nth]; exact ih (by simpa using h)
theorem dQ {lo hi:Nat} {l:List D} (h:names lo hi l=false) {j:Nat} (hj:j < l.length):(nth l j .dead).names1 lo hi=false:=by
 induction l generalizing j with
 | nil=>simp at hj
 | cons d l ih =>
  simp only [names] at h
  cases hd:d.names1 lo hi with
  | true=>rw [hd] at h; simp at h
  | false =>
   rw [hd] at h
   cases j with
   | zero=>exact hd
   | succ j=>exact ih (by simpa using h) (by simpa using hj)
theorem uR {lo hi:Nat} {l:List D} (h:jG lo hi l=false) {j:Nat} (hj:j < l.length):(nth l j .dead).names lo hi=false:=by
 induction l generalizing j with
 | nil=>simp at hj
 | cons d l ih =>
  simp only [jG] at h
  cases hd:d.names lo hi with
  | true=>rw [hd] at h; simp at h
  | false =>
   rw [hd] at h
   cases j with
   | zero=>exact hd
   | succ j=>exact ih (by simpa using h) (by simpa using hj)
theorem Ra.keep {lo hi:Nat} (k:Keeps lo hi G G' tk tk') {v:Value} {d:D} (hn:d.names lo hi=false) (h:Ra F G tk v d):Ra F G' tk' v d:=by
 cases h with
 | cell h1 =>
  refine .cell (h1.keep k ?_)
  cases d <;> first | exact hn | rfl
 | agg cs l h1 h2=>exact .agg cs l h1 fun j hj=>(h2 j hj).keep k (dQ hn hj)
theorem Rt.keep {lo hi:Nat} (k:Keeps lo hi G G' tk tk') {v:Value} {d:D} (hn:d.names1 lo hi=false) (h:Rt F G tk v d):Rt F G' tk' v d:=by
 cases h with
 | cell h1=>exact .cell (h1.keep k hn)
 | agg cs l h1 h2=>exact .agg cs l h1 fun j hj=>⟨(h2 j hj).1.mono k.σ,(h2 j hj).2⟩
theorem RefO.keep {lo hi:Nat} (k:Keeps lo hi G G' tk tk') {id j:Nat} {b:Bool} {v:Value} (hn:¬(lo≤id∧id < hi)) (h:RefO G id j b v):RefO G' id j b v:=by
 rcases h with h | ⟨h1,blk,ob,h2,h3⟩
 ·exact .inl h
 ·obtain ⟨o,h4⟩:=k.obj blk _ h3
  exact .inr ⟨h1,blk,o,h2,by rw [k.β id hn]; exact h4⟩
theorem Rd.keep {lo hi:Nat} (k:Keeps lo hi G G' tk tk') {v:Value} {d:D} (hn:d.names lo hi=false) (h:Rd F G tk v d):Rd F G' tk' v d:=by
 cases h with
 | any h1=>exact .any (h1.keep k hn)
 | tup vs l h1 h2=>exact .tup vs l h1 fun j hj=>(h2 j hj).keep k (dQ hn hj)
 | mref id=>rw [← k.β id (bC hn)]; exact .mref id
 | msl id z n a c h1 h2 h3=>exact .msl id z n a c (k.row id n _ (bC hn) h1) h2 h3
 | rptr id z n i off b c h1 h2=>exact .rptr id z n i off b c (k.row id n _ (bC hn) h1) h2
 | oref id j b v h1=>exact .oref id j b v (h1.keep k (bC hn))
 | oagg id off m nl cs h1 h2=>exact .oagg id off m nl cs h1 fun i hi=>(h2 i hi).keep k (bC hn)
 | osl id off n c a h1 h2=>exact .osl id off n c a h1 (by rw [k.β id (bC hn)]; exact h2)
 | kseq g id j b bx mv h h2=>exact .kseq g id j b bx mv (h.keep k (bC hn)) (k.σ _ _ _ h2)
theorem Rd.dead (v:Value):Rd F G tk v .dead:=.any (.cell (.pure (.dead v) trivial))
theorem b9 (v:Value) (d:D):TagR G tk v d.pure1:=by cases d <;> trivial
theorem Rp.pure1 {v:Value} {d:D} (h:Rp σ v d):Rp σ v d.pure1:=by
 cases h with
 | slice a n c t sz g b o val h1 h2 h3 h4 h5=>exact .slice a n c .ro sz g b o val h1 h2 h3 h4 h5
 | dead v=>exact .dead v
 | int k n=>exact .int k n
 | bool b=>exact .bool b
 | str s=>exact .str s
 | nilp=>exact .nilp
 | ubool b=>exact .dead _
 | nilm=>exact .nilm
theorem Rp.tag {v:Value} {t:Tag} {z n:Nat} {g:Nat→List D} (h:Rp σ v (.slice t z n g)) (t':Tag):Rp σ v (.slice t' z n g):=by
 cases h with
 | slice a _ c _ _ _ b o val h1 h2 h3 h4 h5=>exact .slice a n c t' z g b o val h1 h2 h3 h4 h5
theorem Rp.ro1 {v:Value} {d:D} (h:Rp σ v d):Rp σ v d.ro1:=by
 cases h with
 | slice a n c t sz g b o val h1 h2 h3 h4 h5 =>
  have hr:Rp σ (.slice a n c) (.slice t sz n g):=.slice a n c t sz g b o val h1 h2 h3 h4 h5
  cases t <;> exact hr.tag _
 | dead v=>exact .dead v
 | int k n=>exact .int k n
 | bool b=>exact .bool b
 | str s=>exact .str s
 | nilp=>exact .nilp
 | ubool b=>exact .ubool b
 | nilm=>exact .nilm
theorem bN (d:D):d.pure1.pure1=d.pure1:=by cases d <;> rfl
theorem Rc.pure1 {v:Value} {d:D} (h:Rc F G tk v d):Rp G.σ v d.pure1:=by
 cases h with
 | pure h1 _=>exact h1.pure1
 | ptr id off=>exact .dead _
 | eptr b o l _=>exact .dead _
 | fn f cap l _ _=>exact .dead _
 | mp _ _ _ _ _ _ _ _ _ _=>exact .dead _
theorem Rc.ro1 {v:Value} {d:D} (h:Rc F G tk v d):Rc F G tk v d.ro1:=by
 cases h with
 | pure h1 h2 =>
  refine .pure h1.ro1 ?_
  cases d with
  | slice t z n g=>cases t <;> first | trivial | exact h2
  | _=>trivial
 | ptr id off=>exact .ptr id off
 | eptr b o l h1=>exact .eptr b o l h1
 | fn f cap l h1 h2=>exact .fn f cap l h1 h2
 | mp vk vv va n ks vs h1 h2 h3 h4=>exact .mp vk vv va n ks vs h1 h2 h3 h4
theorem aO (l:List D):(aM l).length=l.length:=by
 induction l with
 | nil=>rfl
 | cons d l ih=>simp [aM,ih]
theorem wC (l:List D):(ros l).length=l.length:=by
 induction l with
 | nil=>rfl
 | cons d l ih=>simp [ros,ih]
theorem aU (l:List D) (j:Nat):nth (aM l) j .dead=(nth l j .dead).pure1:=by
 induction l generalizing j with
 | nil=>rfl
 | cons d l ih=>cases j with
  | zero=>rfl
  | succ j=>exact ih j
theorem aJH (l:List D) (j:Nat):nth (ros l) j .dead=(nth l j .dead).ro1:=by
 induction l generalizing j with
 | nil=>rfl
 | cons d l ih=>cases j with
  | zero=>rfl
  | succ j=>exact ih j
theorem hO (l:List D) (o j:Nat):nth (l.drop o) j .dead=nth l (o+j) .dead:=by
 induction o generalizing l with
 | zero=>simp
 | succ o ih =>
  cases l with
  | nil=>simp [nth]
  | cons d l=>rw [List.drop_succ_cons,ih]; rw [show o+1+j=(o+j)+1 from by omega]; rfl
theorem kK (l:List D) (n j:Nat) (h:j < n):nth (l.take n) j .dead=nth l j .dead:=by
 induction n generalizing l j with
 | zero=>omega
 | succ n ih =>
  cases l with
  | nil=>simp [nth]
  | cons d l=>cases j with
   | zero=>rfl
   | succ j=>exact ih l j (by omega)
theorem i4 (l m:List D) (j:Nat):nth (l++m) j .dead=if j < l.length then nth l j .dead else nth m (j - l.length) .dead:=by
 induction l generalizing j with
 | nil=>simp
 | cons d l ih=>cases j with
  | zero=>simp [nth]
  | succ j=>simp only [List.cons_append,nth,ih,List.length_cons,Nat.add_lt_add_iff_right,Nat.add_sub_add_right]
theorem cD {α:Type} (l:List α) (i:Nat) (a:α):(upd l i a).length=l.length:=by
 induction l generalizing i with
 | nil=>rfl
 | cons d l ih=>cases i with
  | zero=>rfl
  | succ i=>simp [upd,ih]
theorem fN (l:List D) (i j:Nat) (d:D):nth (upd l i d) j .dead=if i=j∧j < l.length then d else nth l j .dead:=by
 induction l generalizing i j with
 | nil=>simp [upd,nth]
 | cons e l ih =>
  cases i with
  | zero=>cases j with
   | zero=>simp [upd,nth]
   | succ j=>simp [upd,nth]
  | succ i=>cases j with
   | zero=>simp [upd,nth]
   | succ j=>simp only [upd,nth,ih,List.length_cons,Nat.add_lt_add_iff_right,Nat.add_right_cancel_iff]
theorem EAt.drop {b o:Nat} {l:List D} (h:EAt σ b o l) (k:Nat):EAt σ b (o+k) (l.drop k):=by
 intro j hj
 rw [List.length_drop] at hj
 obtain ⟨v,h1,h2⟩:=h (k+j) (by omega)
 refine ⟨v,by rw [Nat.add_assoc]; exact h1,?_⟩
 rw [hO]
 exact h2
end mono
theorem tH (w:World) (o:Obj) {r:Nat} (h:r < w.heap.size):(w.alloc o).heap[r]? = w.heap[r]?:=by
 show (w.heap.push o)[r]? = _
 rw [Array.getElem?_push_lt h,Array.getElem?_eq_getElem h]
def Blk (G:Gh) (id:Nat) (cs:List D) (b:Nat):Prop :=
 (fH cs=false∧G.β id=b)∨∃ w z n g c,cs=[.dead,.arr w z n g]∧G.η id n=some (.slice (some ⟨b,0,none⟩) n c)∧0 < c
theorem Blk.congr {G G':Gh} {id:Nat} {cs:List D} {b:Nat} (h:Blk G id cs b) (e1:G'.β id=G.β id) (e2:∀ n,G'.η id n=G.η id n):Blk G' id cs b:=by
 rcases h with ⟨h1,h2⟩ | ⟨w,z,n,g,c,h1,h2,h3⟩
 ·exact .inl ⟨h1,e1.trans h2⟩
 ·exact .inr ⟨w,z,n,g,c,h1,(e2 n).trans h2,h3⟩
theorem Blk.flat {G:Gh} {id:Nat} {cs:List D} {b:Nat} (h:Blk G id cs b) (hs:fH cs=false):G.β id=b:=by
 rcases h with ⟨_,h⟩ | ⟨w,z,n,g,c,rfl,_⟩
 ·exact h
 ·cases hs
theorem bW {cs:List D} (h:aI cs=true):fH cs=false:=by
 match hc:fH cs with
 | false=>rfl
 | true =>
  simp only [fH,cV,bS,eF,Bool.or_eq_true] at hc
  rcases hc with (hc | hc) | hc <;> split at hc <;> first | cases h | cases hc
theorem kY {cs:List D} (h:fH cs=false):cV cs=false:=by
 simp only [fH,Bool.or_eq_false_iff] at h
 exact h.1.1
theorem bL {cs:List D} (h:fH cs=false):bS cs=false:=by
 simp only [fH,Bool.or_eq_false_iff] at h
 exact h.1.2
theorem hT {cs:List D} (h:fH cs=false):eF cs=false:=by
 simp only [fH,Bool.or_eq_false_iff] at h
 exact h.2
theorem cG {cs:List D} (h:bS cs=true):∃ m c va nl n ks vs,cs=[.dead,.obj m c va nl n ks vs]:=by
 unfold bS at h
 split at h
 ·exact ⟨_,_,_,_,_,_,_,rfl⟩
 ·cases h
theorem fD {cs:List D} (h:eF cs=true):∃ i j b c k q,cs=[.dead,.mit i j b c k q]:=by
 unfold eF at h
 split at h
 ·exact ⟨_,_,_,_,_,_,rfl⟩
 ·cases h
theorem dR {cs:List D} (h:cV cs=true):∃ w z n g,cs=[.dead,.arr w z n g]:=by
 unfold cV at h
 split at h
 ·exact ⟨_,_,_,_,rfl⟩
 ·cases h
theorem aBJ {cs:List D} (h:fH cs=true):(∃ w z n g,cs=[.dead,.arr w z n g])∨(∃ m c va nl n ks vs,cs=[.dead,.obj m c va nl n ks vs])∨∃ i j b c k q,cs=[.dead,.mit i j b c k q]:=by
 simp only [fH,Bool.or_eq_true] at h
 rcases h with (h | h) | h
 ·exact .inl (dR h)
 ·exact .inr (.inl (cG h))
 ·exact .inr (.inr (fD h))
def bT (G:Gh) (hp:Nat→Option (Bool×List D)) (tk:Nat→Option (Nat×Nat)) (b:Nat):Nat ⊕ Nat→Prop
 | .inl id=>∃ cs,hp id=some (false,cs)∧Blk G id cs b
 | .inr i=>∃ z n c,tk i=some (z,n)∧G.ρ i=.slice (some ⟨b,0,none⟩) n c∧n < c
def HoldsO (F:Nat→FuncId) (G:Gh) (tk:Nat→Option (Nat×Nat)) (o:Obj) (cs:List D):Prop :=
 (aI cs=true∧∃ c e,o=.cells c e (0,0)∧c.size=cs.length∧∀ j,j < cs.length→Rc F G tk (c.getD j undef) (nth cs j .dead)) ∨
 (∃ s pos,o=.stringIter s pos∧cs=[.dead,.str s,.int .i64 ((pos:Nat):Int)]) ∨
 ∃ es clock x va n ks vs,o=.map es clock∧cs=[x,.mp va n ks vs]∧Rc F G tk (.tuple #[.tuple (es.map (·.key)),.tuple (es.map (·.val))]) (.mp va n ks vs)
theorem HoldsO.cells {F:Nat→FuncId} {G:Gh} {tk:Nat→Option (Nat×Nat)} {o:Obj} {cs:List D} (h:HoldsO F G tk o cs) (hs:aI cs=true):∃ c e,o=.cells c e (0,0)∧c.size=cs.length∧∀ j,j < cs.length→Rc F G tk (c.getD j undef) (nth cs j .dead):=by
 rcases h with h | ⟨s,pos,_,rfl⟩ | ⟨_,_,x,_,_,_,_,_,rfl,_⟩
 ·exact h.2
 ·simp [aI] at hs
 ·cases x <;> simp [aI] at hs
theorem HoldsO.imp {F:Nat→FuncId} {G G':Gh} {tk tk':Nat→Option (Nat×Nat)} {o:Obj} {cs:List D} (h:HoldsO F G tk o cs) (f:∀ j v,j < cs.length→Rc F G tk v (nth cs j .dead)→Rc F G' tk' v (nth cs j .dead)):HoldsO F G' tk' o cs:=by
 rcases h with ⟨hs,c,e,h1,h2,h3⟩ | h | ⟨es,clock,x,va,n,ks,vs,h1,rfl,h2⟩
 ·exact .inl ⟨hs,c,e,h1,h2,fun j hj=>f j _ hj (h3 j hj)⟩
 ·exact .inr (.inl h)
 ·exact .inr (.inr ⟨es,clock,x,va,n,ks,vs,h1,rfl,f 1 _ (by simp) h2⟩)
theorem HoldsO.cell {F:Nat→FuncId} {G:Gh} {tk:Nat→Option (Nat×Nat)} {o:Obj} {cs:List D} (h:HoldsO F G tk o cs):aI cs=true∨(∃ s p,cs=[.dead,.str s,.int .i64 p])∨∃ x va n ks vs,cs=[x,.mp va n ks vs]:=by
 rcases h with h | ⟨s,pos,_,h⟩ | ⟨_,_,x,va,n,ks,vs,_,h,_⟩
 ·exact .inl h.1
 ·exact .inr (.inl ⟨s,_,h⟩)
 ·exact .inr (.inr ⟨x,va,n,ks,vs,h⟩)
theorem HoldsO.noArr {F:Nat→FuncId} {G:Gh} {tk:Nat→Option (Nat×Nat)} {o:Obj} {cs:List D} (h:HoldsO F G tk o cs):fH cs=false:=by
 rcases h.cell with h | ⟨s,p,rfl⟩ | ⟨x,va,n,ks,vs,rfl⟩
 ·exact bW h
 ·rfl
 ·cases x <;> rfl
def RowO (σ:Sg) (o:Obj) (z n c:Nat) (g:Nat→List D):Prop :=
 ∃ cur e,o=.cells cur e (0,0)∧cur.size=c * z∧∀ i,i < n→(g i).length=z∧∀ j,j < z→(cur.getD (i * z+j) undef).oneCell'=true∧Rp σ (cur.getD (i * z+j) undef) (nth (g i) j .dead).pure1
theorem RowO.mono {σ σ':Sg} (h:SgLe σ σ') {o:Obj} {z n c:Nat} {g:Nat→List D} (r:RowO σ o z n c g):RowO σ' o z n c g:=by
 obtain ⟨cur,e,h1,h2,h3⟩:=r
 exact ⟨cur,e,h1,h2,fun i hi=>⟨(h3 i hi).1,fun j hj=>⟨((h3 i hi).2 j hj).1,((h3 i hi).2 j hj).2.mono h⟩⟩⟩
structure aKB (np:Nat) (η0 η:Nat→Nat→Option Value) (id:Nat) (w:Bool) (n:Nat) (a:Option Addr) (c:Nat):Prop where
 at_:η id n=some (.slice a n c)
 le:n≤c
 none:∀ m,n < m→η id m=.none
 mine:id < np→w=false∧η0 id n=some (.slice a n c)
 blk:0 < c→∃ b,a=some ⟨b,0,.none⟩
def aKF:Value→Nat→Value
 | .agg cs,q=>cs.getD q undef
 | v,_=>v
def LinR (γ:Nat→Option Rs) (id:Nat) (x:D) (n:Nat) (ks:Nat→ByteArray) (vs:Nat→List D) (vals:Nat→Value):Prop :=
 ∀ i,i < n→(∀ k,x=.str k→i≠mpF ks k n)→∀ q,q < (vs i).length→∀ t z len g,nth (vs i) q .dead=.slice t z len g→∀ a c,aKF (vals i) q=.slice a len c→len < c→∃ b,a=some ⟨b,0,none⟩∧γ b=some ⟨id,i,q,len,z,c⟩
def uL (es:Array MapEntry):Nat→Value:=fun i=>(es.getD i default).val
def MapR (σ:Sg) (es:Array MapEntry) (va:Bool) (n:Nat) (ks:Nat→ByteArray) (vs:Nat→List D):Prop :=
 es.size=n∧∀ i (h:i < es.size),es[i].key=.string (ks i)∧CellsV σ va es[i].val (vs i)
theorem MapR.mono {σ σ':Sg} (h:SgLe σ σ') {es:Array MapEntry} {va:Bool} {n:Nat} {ks:Nat→ByteArray} {vs:Nat→List D} (r:MapR σ es va n ks vs):MapR σ' es va n ks vs :=
 ⟨r.1,fun i hi=>⟨(r.2 i hi).1,(r.2 i hi).2.mono h⟩⟩
def RM (es:Array MapEntry) (ck:Nat):Prop :=
 (∀ i j (hi:i < es.size) (hj:j < es.size),es[i].born=es[j].born→i=j)∧∀ i (h:i < es.size),es[i].born < ck
def aJF {α:Type}:Option α→Bool
 | none=>false
 | some _=>true
def fJ (x y:ByteArray):Value:=.agg #[.string x,.string y]
def FamE (φ:Nat→Option Fo) (b:Nat) (nl:Nat→Bool) (es:Array MapEntry):Prop :=
 (∀ i (h:i < es.size),∃ x y blk ob,es[i].key=fJ x y∧es[i].val=.map (some blk)∧φ blk=some ⟨b,cd x y+1,ob⟩)∧∀ x y,nl (cd x y)=false→∃ i,∃ h:i < es.size,es[i].key=fJ x y
def ObC (σ:Sg) (φ:Nat→Option Fo) (b m va:Nat) (nl:Nat→Bool) (n:Nat→Nat) (ks:Nat→Nat→ByteArray) (vs:Nat→Nat→List D) (j:Nat) (ob:Obj):Prop :=
 ∃ es ck,ob=.map es ck∧RM es ck∧(jk m j=true→MapR σ es (Nat.ble va j) (n j) (ks j) (vs j))∧(jk m j=false→FamE φ b nl es)
def ObjAt (G:Gh) (b m va:Nat) (nl:Nat→Bool) (n:Nat→Nat) (ks:Nat→Nat→ByteArray) (vs:Nat→Nat→List D):Prop :=
 ∃ cs e,G.φ b=some ⟨b,0,.cells cs e (0,0)⟩∧cs.size=m % 100 ∧
  (∀ j,(nl j=true∧(j < m % 100→cs.getD j undef=.map none)∧∀ k y,G.φ k=some y→y.id=b→y.q≠j+1) ∨
   (nl j=false∧∃ blk ob,(j < m % 100→cs.getD j undef=.map (some blk))∧G.φ blk=some ⟨b,j+1,ob⟩∧ObC G.σ G.φ b m va nl n ks vs j ob)) ∧
  ∀ j,jk m j=false→nl j=true→∀ x y,nl (cd x y)=true
theorem FamE.trans {φ φ':Nat→Option Fo} {b:Nat} {nl:Nat→Bool} {es:Array MapEntry} (h:FamE φ b nl es) (hφ:∀ k x,x.id=b→φ k=some x→∃ o,φ' k=some ⟨x.id,x.q,o⟩):FamE φ' b nl es:=by
 refine ⟨fun i hi=>?_,h.2⟩
 obtain ⟨x,y,blk,ob,h1,h2,h3⟩:=h.1 i hi
 obtain ⟨o,h4⟩:=hφ _ _ rfl h3
 exact ⟨x,y,blk,o,h1,h2,h4⟩
theorem ObC.trans {σ σ':Sg} {φ φ':Nat→Option Fo} {b m va:Nat} {nl:Nat→Bool} {n:Nat→Nat} {ks:Nat→Nat→ByteArray} {vs:Nat→Nat→List D} {j:Nat} {ob:Obj} (h:ObC σ φ b m va nl n ks vs j ob)
  (hσ:SgLe σ σ') (hφ:∀ k x,x.id=b→φ k=some x→∃ o,φ' k=some ⟨x.id,x.q,o⟩):ObC σ' φ' b m va nl n ks vs j ob:=by
 obtain ⟨es,ck,h1,h2,h3,h4⟩:=h
 exact ⟨es,ck,h1,h2,fun hj=>(h3 hj).mono hσ,fun hj=>(h4 hj).trans hφ⟩
theorem ObjAt.trans {G G':Gh} {b m va:Nat} {nl:Nat→Bool} {n:Nat→Nat} {ks:Nat→Nat→ByteArray} {vs:Nat→Nat→List D} (h:ObjAt G b m va nl n ks vs) (hσ:SgLe G.σ G'.σ)
  (hφ:∀ k x,x.id=b→(G.φ k=some x↔G'.φ k=some x)):ObjAt G' b m va nl n ks vs:=by
 obtain ⟨cs,e,h1,h2,h3,h4⟩:=h
 refine ⟨cs,e,(hφ _ _ rfl).1 h1,h2,fun j=>?_,h4⟩
 rcases h3 j with ⟨g1,g2,g3⟩ | ⟨g1,blk,ob,g2,g3,g4⟩
 ·exact .inl ⟨g1,g2,fun k y hy hyi=>g3 k y ((hφ _ _ hyi).2 hy) hyi⟩
 ·exact .inr ⟨g1,blk,ob,g2,(hφ _ _ rfl).1 g3,g4.trans hσ fun k x hx hk=>⟨x.ob,(hφ k x hx).1 hk⟩⟩
theorem ObjAt.map {G:Gh} {b m va:Nat} {nl:Nat→Bool} {n:Nat→Nat} {ks:Nat→Nat→ByteArray} {vs:Nat→Nat→List D} (h:ObjAt G b m va nl n ks vs) {j:Nat} (hj:jk m j=true) :
  (nl j=true∧∀ k y,G.φ k=some y→y.id=b→y.q≠j+1)∨(nl j=false∧∃ blk es ck,G.φ blk=some ⟨b,j+1,.map es ck⟩∧MapR G.σ es (Nat.ble va j) (n j) (ks j) (vs j)∧RM es ck):=by
 obtain ⟨cs,e,_,_,h3,_⟩:=h
 rcases h3 j with ⟨g1,_,g3⟩ | ⟨g1,blk,ob,_,g3,es,ck,rfl,g4,g5,_⟩
 ·exact .inl ⟨g1,g3⟩
 ·exact .inr ⟨g1,blk,es,ck,g3,g5 hj,g4⟩
def aH9 (G:Gh) (hp:Nat→Option (Bool×List D)) (id i j:Nat) (b:Bool) (c:Nat) (k:Nat→Bool) (q:Option Nat):Prop :=
 (∀ e,hp i=some e→∃ m c' va nl n ks vs,e=(false,[.dead,.obj m c' va nl n ks vs])∧c≤c')∧∃ ob,G.φ (G.β id)=some ⟨G.β id,0,ob⟩ ∧
  ((b = true ∧ ∃ since seen last,ob = .mapIter none since seen last) ∨
   (b = false ∧ ∃ blk ob' since seen,ob = .mapIter (some blk) since seen since ∧ G.φ blk = some ⟨G.β i,j + 1,ob'⟩ ∧
      ∀ m va nl n ks vs,hp i=some (false,[.dead,.obj m c va nl n ks vs])→∃ es,ob'=.map es since∧(∀ x (hx:x < es.size),seen.contains es[x].born=k x)∧∀ x,q=some x→∃ hx:x < es.size,seen.back? = some es[x].born))
structure ObS (np:Nat) (φ0:Nat→Option Fo) (G:Gh) (hp:Nat→Option (Bool×List D)):Prop where
 uniq:∀ b b' x x',G.φ b=some x→G.φ b'=some x'→x.id=x'.id→x.q=x'.q→b=b'
 hdr:∀ b x,G.φ b=some x→∃ o,G.φ x.id=some ⟨x.id,0,o⟩
 inj:∀ i i' cs cs',hp i=some (false,cs)→hp i'=some (false,cs')→bS cs=true∨eF cs=true→bS cs'=true∨eF cs'=true→G.β i=G.β i'→i=i'
 objs:∀ id m c va nl n ks vs,hp id=some (false,[.dead,.obj m c va nl n ks vs])→ObjAt G (G.β id) m va nl n ks vs
 mits:∀ id i j b c k q,hp id=some (false,[.dead,.mit i j b c k q])→aH9 G hp id i j b c k q
 orig:∀ id m va nl n ks vs,id < np→hp id=some (false,[.dead,.obj m 0 va nl n ks vs])→∀ b x,φ0 b=some x→x.id=G.β id→G.φ b=some x
theorem ObjAt.keep {G G':Gh} {id m va:Nat} {nl:Nat→Bool} {n:Nat→Nat} {ks:Nat→Nat→ByteArray} {vs:Nat→Nat→List D} (h:ObjAt G id m va nl n ks vs) (hφ:G'.φ=G.φ) (hσ:SgLe G.σ G'.σ):ObjAt G' id m va nl n ks vs :=
 h.trans hσ fun k x _=>by rw [hφ]
theorem ObS.keep {np:Nat} {φ0:Nat→Option Fo} {G G':Gh} {hp hp':Nat→Option (Bool×List D)} (h:ObS np φ0 G hp) (hφ:G'.φ=G.φ) (hσ:SgLe G.σ G'.σ)
  (h1:∀ id cs,hp' id=some (false,cs)→bS cs=true∨eF cs=true→hp id=some (false,cs))
  (hβ:∀ i,G'.β i=G.β i∨(aJF (hp i)=false∧∀ id' f cs',hp id'=some (f,cs')→names i (i+1) cs'=false))
  (h2:∀ i e,hp' i=some e→hp i=some e∨(∃ e0,hp i=some e0∧(bS e0.2=false∨e0.1=true))∨∀ id' f cs',hp id'=some (f,cs')→names i (i+1) cs'=false):ObS np φ0 G' hp':=by
 have hb:∀ id e,hp id=some e→G'.β id=G.β id:=fun id e he=>by
  rcases hβ id with h3 | ⟨h3,_⟩
  ·exact h3
  ·rw [he] at h3
   cases h3
 refine ⟨fun b b' x x' e1 e2=>h.uniq b b' x x' (hφ ▸ e1) (hφ ▸ e2),fun b x e=>by rw [hφ] at e ⊢; exact h.hdr b x e,fun i i' cs cs' e1 e2 o1 o2 e3=>?_,fun id m c va nl n ks vs e=>?_,fun id i j b c k q e=>?_,fun id m va nl n ks vs hid e b x hb0 hx=>?_⟩
 ·have e1:=h1 i _ e1 o1
  have e2:=h1 i' _ e2 o2
  rw [hb i _ e1,hb i' _ e2] at e3
  exact h.inj i i' cs cs' e1 e2 o1 o2 e3
 ·have e1:=h1 id _ e (.inl rfl)
  rw [hb id _ e1]
  exact (h.objs id _ _ _ _ _ _ _ e1).keep hφ hσ
 ·have e1:=h1 id _ e (.inr rfl)
  obtain ⟨g1,ob,g2,g3⟩:=h.mits id i j b c k q e1
  have hnm:¬∀ id' f cs',hp id'=some (f,cs')→names i (i+1) cs'=false:=fun h3=>by
   have:=h3 id _ _ e1
   have e3:Nat.ble i i=true:=by rw [Nat.ble_eq]; exact Nat.le_refl _
   have e4:Nat.blt i (i+1)=true:=by rw [Nat.blt_eq]; omega
   simp only [names,D.names1,e3,e4,Bool.and_self,cond_true,cond_false] at this
   cases this
  have key:∀ e,hp' i=some e→hp i=some e:=fun e he=>by
   rcases h2 i e he with h3 | ⟨e0,h3,h4⟩ | h3
   ·exact h3
   ·obtain ⟨m,c',va,nl,n,ks,vs,rfl,_⟩:=g1 e0 h3
    rcases h4 with h4 | h4 <;> cases h4
   ·exact absurd h3 hnm
  have hbi:G'.β i=G.β i:=by
   rcases hβ i with h3 | ⟨_,h3⟩
   ·exact h3
   ·exact absurd h3 hnm
  refine ⟨fun e he=>g1 e (key e he),ob,by rw [hφ,hb id _ e1]; exact g2,?_⟩
  rcases g3 with g3 | ⟨g3,blk,ob',since,seen,g4,g5,g6⟩
  ·exact .inl g3
  ·exact .inr ⟨g3,blk,ob',since,seen,g4,by rw [hφ,hbi]; exact g5,fun m va nl n ks vs e=>g6 m va nl n ks vs (key _ e)⟩
 ·have e1:=h1 id _ e (.inl rfl)
  rw [hb id _ e1] at hx
  rw [hφ]
  exact h.orig id _ _ _ _ _ _ hid e1 b x hb0 hx
theorem ObS.same {np:Nat} {φ0:Nat→Option Fo} {G G':Gh} {hp:Nat→Option (Bool×List D)} (h:ObS np φ0 G hp) (hφ:G'.φ=G.φ) (hσ:SgLe G.σ G'.σ) (hβ:G'.β=G.β):ObS np φ0 G' hp :=
 h.keep hφ hσ (fun id cs e _=>e) (fun i=>.inl (by rw [hβ])) fun i e he=>.inl he
structure Mem (F:Nat→FuncId) (B np:Nat) (w0:World) (ext:List Nat) (σ0:Og) (G:Gh) (hp:Nat→Option (Bool×List D)) (tk:Nat→Option (Nat×Nat)) (w:World):Prop where
 stab:∀ b o v,G.σ b o=some v→v.oneCell'=true∧∃ c e fz,w.heap[b]? = some (.cells c e fz)∧c[o]? = some v
 old:∀ b o,b < B→G.σ b o=σ0 b o
 os:w.os=w0.os
 tape:w.tape=w0.tape
 output:w.output=w0.output
 base:B≤w.heap.size
 keep:∀ b,b < B→b ∉ ext→σ0.φ b=none→w.heap[b]? = w0.heap[b]?
 vars:∀ id cs,hp id=some (false,cs)→fH cs=false→∃ o,w.heap[G.β id]? = some o∧HoldsO F G tk o cs∧∀ q,G.σ (G.β id) q=none
 rows:∀ id fw z n g,hp id=some (false,[.dead,.arr fw z n g])→∃ a c,aKB np σ0.η G.η id fw n a c∧∀ b,a=some ⟨b,0,none⟩→0 < c→(∀ q,G.σ b q=none)∧∃ o,w.heap[b]? = some o∧RowO G.σ o z n c g
 froz:∀ id cs,hp id=some (true,cs)→∀ j,j < cs.length→∃ v,G.σ (G.β id) j=some v∧Rp G.σ v (nth cs j .dead)∧nth cs j .dead=(nth cs j .dead).pure1
 toks:∀ i z n,tk i=some (z,n)→∃ a c,G.ρ i=.slice a n c∧n≤c∧(n < c→∃ b cur e,a=some ⟨b,0,none⟩∧w.heap[b]? = some (.cells cur e (0,0))∧cur.size=c * z ∧
  ∀ o,n * z≤o→G.σ b o=none)
 own1:∀ b k k',bT G hp tk b k→bT G hp tk b k'→k=k'
 own2:∀ b k,bT G hp tk b k→B≤b∨(b∈ext∧∃ id,k=.inl id∧id < np∧id < ext.length)
 resv:∀ b r,G.γ b=some r→B≤b∧(∀ k,¬bT G hp tk b k)∧(∀ o,r.n * r.z≤o→G.σ b o=none)∧∃ cur e,w.heap[b]? = some (.cells cur e (0,0))∧cur.size=r.c * r.z
 lins:∀ id x va n ks vs,hp id=some (false,[x,.mp va n ks vs])→x≠.dead→(va=true∧(x=.nilp∨∃ k,x=.str k))∧∃ es ck,w.heap[G.β id]? = some (.map es ck)∧LinR G.γ id x n ks vs (uL es)
 frn:∀ b x,G.φ b=some x→(B≤b∨∃ o,σ0.φ b=some ⟨x.id,x.q,o⟩)∧(∀ k,¬bT G hp tk b k)∧(∀ o,G.σ b o=none)∧G.γ b=none∧w.heap[b]? = some x.ob
 omono:∀ b x,σ0.φ b=some x→∃ o,G.φ b=some ⟨x.id,x.q,o⟩
 obs:ObS np σ0.φ G hp
 mnp:∀ id x va n ks vs,hp id=some (false,[x,.mp va n ks vs])→np≤id
theorem Rc.oneCell {F:Nat→FuncId} {G:Gh} {tk:Nat→Option (Nat×Nat)} {v:Value} {d:D} (h:Rc F G tk v d) (hd:d≠.dead) (hm:∀ va n ks vs,d≠.mp va n ks vs):v.oneCell'=true:=by
 cases h with
 | mp _ _ va n ks vs _ _ _ _=>exact absurd rfl (hm va n ks vs)
 | pure h1 _=>cases h1 <;> first | rfl | exact absurd rfl hd
 | ptr id off=>rfl
 | eptr b o l _=>rfl
 | fn f cap l _ _=>rfl
theorem iW {l:List D} (h:aI l=true) {j:Nat} (hj:j < l.length):nth l j .dead≠.dead:=by
 induction l generalizing j with
 | nil=>simp at hj
 | cons d l ih =>
  cases j with
  | zero=>intro e; simp only [nth] at e; subst e; simp [aI] at h
  | succ j =>
   refine ih (j:=j) ?_ (by simpa using hj)
   cases d <;> first | exact h | simp [aI] at h
theorem kJ {l:List D} (h:aI l=true) {j:Nat} (va:Bool) (n:Nat) (ks:Nat→ByteArray) (vs:Nat→List D):nth l j .dead≠.mp va n ks vs:=by
 induction l generalizing j with
 | nil=>intro e; cases j <;> cases e
 | cons d l ih =>
  cases j with
  | zero=>intro e; simp only [nth] at e; subst e; simp [aI] at h
  | succ j =>
   refine ih (j:=j) ?_
   cases d <;> first | exact h | simp [aI] at h
section
variable {F:Nat→FuncId} {B np:Nat} {w0 w:World} {ext:List Nat} {σ0:Og} {G:Gh} {hp:Nat→Option (Bool×List D)} {tk:Nat→Option (Nat×Nat)}
theorem Mem.cell (m:Mem F B np w0 ext σ0 G hp tk w) {b o:Nat} {v:Value} (h:G.σ b o=some v):w.cell? ⟨b,o,none⟩=some v:=by
 obtain ⟨_,c,e,fz,h1,h2⟩:=m.stab b o v h
 rw [cell_of_row w b o c e fz h1]
 exact h2
theorem Mem.lt (m:Mem F B np w0 ext σ0 G hp tk w) {b o:Nat} {v:Value} (h:G.σ b o=some v):b < w.heap.size:=by
 obtain ⟨_,c,e,fz,h1,_⟩:=m.stab b o v h
 exact (Array.getElem?_eq_some_iff.1 h1).1
theorem Mem.own_lt (m:Mem F B np w0 ext σ0 G hp tk w) {b:Nat} {k:Nat ⊕ Nat} (h:bT G hp tk b k):b < w.heap.size:=by
 cases k with
 | inl id =>
  obtain ⟨cs,h1,⟨h2,rfl⟩ | ⟨fw,z,n,g,c,rfl,h3,h4⟩⟩:=h
  ·obtain ⟨o,h2,_⟩:=m.vars id cs h1 h2
   exact (Array.getElem?_eq_some_iff.1 h2).1
  ·obtain ⟨a,c',h5,h6⟩:=m.rows id fw z n g h1
   rw [h5.at_] at h3
   cases h3
   obtain ⟨_,o,h7,_⟩:=h6 b rfl h4
   exact (Array.getElem?_eq_some_iff.1 h7).1
 | inr i =>
  obtain ⟨z,n,c,h1,h2,h3⟩:=h
  obtain ⟨a,c',h4,_,h6⟩:=m.toks i z n h1
  rw [h2] at h4
  cases h4
  obtain ⟨b',cur,e,h7,h8,_⟩:=h6 h3
  cases h7
  exact (Array.getElem?_eq_some_iff.1 h8).1
theorem Mem.drew (m:Mem F B np w0 ext σ0 G hp tk w):Mem F B np w0 ext σ0 G hp tk w.drew :=
 ⟨m.stab,m.old,m.os,m.tape,m.output,m.base,m.keep,m.vars,m.rows,m.froz,m.toks,m.own1,m.own2,m.resv,m.lins,m.frn,m.omono,m.obs,m.mnp⟩
theorem bO (d:D):d.names1 0 0=false:=by
 cases d with
 | slice t z n g=>cases t <;> rfl
 | _=>rfl
theorem Rc.more {σ':Sg} {v:Value} {d:D} (h:SgLe G.σ σ') (r:Rc F G tk v d):Rc F { G with σ:=σ' } tk v d :=
 Rc.keep (G:=G) (G':={ G with σ:=σ' }) (lo:=0) (hi:=0) ⟨h,fun _ _=>rfl,fun _ z m _ e=>⟨z,m,e,Nat.le_refl _,fun _=>rfl⟩,fun _ _ _ _ e=>e,fun _ x e=>⟨x.ob,e⟩⟩ (bO d) r
def aL (σ:Sg) (bn:Nat) (st:Nat→Option Value):Sg:=fun b o=>if b=bn then st o else σ b o
theorem c8 (m:Mem F B np w0 ext σ0 G hp tk w) (st:Nat→Option Value):SgLe G.σ (aL G.σ w.heap.size st):=by
 intro b o v h
 have:=m.lt h
 unfold aL
 rw [if_neg (by omega)]
 exact h
theorem bK {w:World} {o:Obj} {b:Nat} {x:Obj} (h:w.heap[b]? = some x):(w.alloc o).heap[b]? = some x:=by
 rw [tH w o (r:=b) (Array.getElem?_eq_some_iff.1 h).1]
 exact h
theorem Mem.newBlock (m:Mem F B np w0 ext σ0 G hp tk w) (c:Array Value) (e:TypeId) (fz:Nat×Nat) (st:Nat→Option Value)
  (hst:∀ o v,st o=some v→v.oneCell'=true∧c[o]? = some v) :
  Mem F B np w0 ext σ0 { G with σ:=aL G.σ w.heap.size st } hp tk (w.alloc (.cells c e fz)):=by
 have hle:=c8 m st
 constructor
 ·intro b o v h
  by_cases hb:b=w.heap.size
  ·subst hb
   simp only [aL,if_true] at h
   exact ⟨(hst o v h).1,c,e,fz,heap_alloc_new w _,(hst o v h).2⟩
  ·simp only [aL,if_neg hb] at h
   obtain ⟨h1,c',e',fz',h2,h3⟩:=m.stab b o v h
   exact ⟨h1,c',e',fz',bK h2,h3⟩
 ·intro b o hb
  have:=m.base
  simp only [aL]
  rw [if_neg (by omega)]
  exact m.old b o hb
 ·exact m.os
 ·exact m.tape
 ·exact m.output
 ·have:=m.base; simp; omega
 ·intro b hb he hf
  rw [tH w _ (r:=b) (by have:=m.base; omega)]
  exact m.keep b hb he hf
 ·intro id cs h hna
  obtain ⟨o',h1,h3,h4⟩:=m.vars id cs h hna
  refine ⟨o',bK h1,h3.imp fun j v hj hr=>hr.more hle,fun o=>?_⟩
  have:=(Array.getElem?_eq_some_iff.1 h1).1
  simp only [aL]
  rw [if_neg (by omega)]
  exact h4 o
 ·intro id fw z n g h
  obtain ⟨a,c',h1,h2⟩:=m.rows id fw z n g h
  refine ⟨a,c',h1,fun b hb hc=>?_⟩
  obtain ⟨h3,o',h4,h5⟩:=h2 b hb hc
  refine ⟨fun q=>?_,o',bK h4,h5.mono hle⟩
  have:=(Array.getElem?_eq_some_iff.1 h4).1
  simp only [aL]
  rw [if_neg (by omega)]
  exact h3 q
 ·intro id cs h j hj
  obtain ⟨v,h1,h2,h3⟩:=m.froz id cs h j hj
  exact ⟨v,hle _ _ _ h1,h2.mono hle,h3⟩
 ·intro i z n h
  obtain ⟨a,c',h1,h2,h3⟩:=m.toks i z n h
  refine ⟨a,c',h1,h2,fun hn=>?_⟩
  obtain ⟨b,cur,e',h4,h5,h6,h7⟩:=h3 hn
  refine ⟨b,cur,e',h4,bK h5,h6,fun o ho=>?_⟩
  have:=(Array.getElem?_eq_some_iff.1 h5).1
  simp only [aL]
  rw [if_neg (by omega)]
  exact h7 o ho
 ·exact m.own1
 ·exact m.own2
 ·intro b r h
  obtain ⟨h1,h2,h3,cur,e',h4,h5⟩:=m.resv b r h
  refine ⟨h1,h2,fun o ho=>?_,cur,e',bK h4,h5⟩
  have:=(Array.getElem?_eq_some_iff.1 h4).1
  simp only [aL]
  rw [if_neg (by omega)]
  exact h3 o ho
 ·intro id x va n ks vs h hx
  obtain ⟨h1,es,ck,h2,h3⟩:=m.lins id x va n ks vs h hx
  exact ⟨h1,es,ck,bK h2,h3⟩
 ·intro b x h
  obtain ⟨h1,h2,h3,h4,h5⟩:=m.frn b x h
  refine ⟨h1,h2,fun o=>?_,h4,bK h5⟩
  have:=(Array.getElem?_eq_some_iff.1 h5).1
  simp only [aL]
  rw [if_neg (by omega)]
  exact h3 o
 ·exact m.omono
 ·exact m.obs.same rfl hle rfl
 ·exact m.mnp
theorem Mem.resv_new (m:Mem F B np w0 ext σ0 G hp tk w):G.γ w.heap.size=none∧G.φ w.heap.size=none:=by
 refine ⟨?_,?_⟩
 ·cases h:G.γ w.heap.size with
  | none=>rfl
  | some r =>
   obtain ⟨_,_,_,_,_,h4,_⟩:=m.resv _ r h
   have:=(Array.getElem?_eq_some_iff.1 h4).1
   omega
 ·cases h:G.φ w.heap.size with
  | none=>rfl
  | some x =>
   obtain ⟨_,_,_,_,h4⟩:=m.frn _ x h
   have:=(Array.getElem?_eq_some_iff.1 h4).1
   omega
theorem Mem.addObj (m:Mem F B np w0 ext σ0 G hp tk w) (id b:Nat) (cs:List D) (ob:Obj)
  (hb:w.heap[b]? = some ob) (hr:HoldsO F { G with β:=fun j=>if j=id then b else G.β j } tk ob cs)
  (hσ:∀ o,G.σ b o=none) (hno:∀ k,¬bT G hp tk b k) (hB:B≤b∨(b∈ext∧id < np∧id < ext.length))
  (hfree:hp id=none) (hcl:∀ id' f cs',hp id'=some (f,cs')→names id (id+1) cs'=false) (hres:G.γ b=none∧G.φ b=none)
  (hlin:∀ x va n ks vs,cs=[x,.mp va n ks vs]→x≠.dead→(va=true∧(x=.nilp∨∃ k,x=.str k))∧∃ es ck,ob=.map es ck∧LinR G.γ id x n ks vs (uL es)) (hmn:∀ x va n ks vs,cs=[x,.mp va n ks vs]→np≤id) :
  Mem F B np w0 ext σ0 { G with β:=fun j=>if j=id then b else G.β j } (fun j=>bif Nat.beq j id then some (false,cs) else hp j) tk w:=by
 have hk:Keeps id (id+1) G { G with β:=fun j=>if j=id then b else G.β j } tk tk :=
  ⟨SgLe.refl _,fun j hj=>by simp only; rw [if_neg (by omega)],fun _ z m _ e=>⟨z,m,e,Nat.le_refl _,fun _=>rfl⟩,fun _ _ _ _ e=>e,fun _ x e=>⟨x.ob,e⟩⟩
 have hna:=hr.noArr
 have hget:∀ j x,(bif Nat.beq j id then some (false,cs) else hp j)=some x→(j=id∧x=(false,cs))∨(j≠id∧hp j=some x):=by
  intro j x h
  by_cases hj:j=id
  ·subst hj
   rw [Nat.beq_refl] at h
   simp only [cond_true,Option.some.injEq] at h
   exact .inl ⟨rfl,h.symm⟩
  ·have:Nat.beq j id=false:=by
    cases hh:Nat.beq j id with
    | false=>rfl
    | true=>exact absurd (Nat.eq_of_beq_eq_true hh) hj
   rw [this] at h
   exact .inr ⟨hj,h⟩
 have hown:∀ b' k,bT { G with β:=fun j=>if j=id then b else G.β j } (fun j=>bif Nat.beq j id then some (false,cs) else hp j) tk b' k →
   (b'=b∧k=.inl id)∨(b'≠b∧bT G hp tk b' k):=by
  intro b' k h
  cases k with
  | inl j =>
   obtain ⟨cs',h1,h2⟩:=h
   simp only at h1
   rcases hget j _ h1 with ⟨rfl,hx⟩ | ⟨hj,h3⟩
   ·cases hx
    have h2:=h2.flat hna
    simp only [if_true] at h2
    exact .inl ⟨h2.symm,rfl⟩
   ·have ho:bT G hp tk b' (.inl j):=⟨cs',h3,h2.congr (by simp only; rw [if_neg hj]) fun _=>rfl⟩
    exact .inr ⟨fun hbb=>hno _ (hbb ▸ ho),ho⟩
  | inr i =>
   have ho:bT G hp tk b' (.inr i):=h
   exact .inr ⟨fun hbb=>hno _ (hbb ▸ ho),ho⟩
 refine ⟨m.stab,m.old,m.os,m.tape,m.output,m.base,m.keep,?_,?_,?_,m.toks,?_,?_,?_,?_,?_,m.omono,?_,?_⟩
 ·intro j cs' h hna'
  rcases hget j _ h with ⟨rfl,h'⟩ | ⟨hj,h3⟩
  ·cases h'
   refine ⟨ob,?_,hr,?_⟩
   ·simp only [if_true]; exact hb
   ·simp only [if_true]; exact hσ
  ·obtain ⟨o',h1,h4,h5⟩:=m.vars j cs' h3 hna'
   simp only
   rw [if_neg hj]
   exact ⟨o',h1,h4.imp fun i v hi hr=>hr.keep hk (dQ (hcl j _ cs' h3) hi),h5⟩
 ·intro j fw z n g h
  rcases hget j _ h with ⟨rfl,h'⟩ | ⟨hj,h3⟩
  ·cases h'
   cases hna
  ·exact m.rows j fw z n g h3
 ·intro j cs' h i hi
  rcases hget j _ h with ⟨rfl,h'⟩ | ⟨hj,h3⟩
  ·cases h'
  ·simp only
   rw [if_neg hj]
   exact m.froz j cs' h3 i hi
 ·intro b' k k' h h'
  rcases hown b' k h with ⟨e1,rfl⟩ | ⟨e1,h1⟩
  ·rcases hown b' k' h' with ⟨_,rfl⟩ | ⟨e2,_⟩
   ·rfl
   ·exact absurd e1 e2
  ·rcases hown b' k' h' with ⟨e2,_⟩ | ⟨_,h2⟩
   ·exact absurd e2 e1
   ·exact m.own1 b' k k' h1 h2
 ·intro b' k h
  rcases hown b' k h with ⟨rfl,rfl⟩ | ⟨_,h1⟩
  ·rcases hB with h1 | ⟨h1,h2⟩
   ·exact .inl h1
   ·exact .inr ⟨h1,id,rfl,h2⟩
  ·exact m.own2 b' k h1
 ·intro b' r h
  obtain ⟨h1,h2,h3⟩:=m.resv b' r h
  refine ⟨h1,fun k hk=>?_,h3⟩
  rcases hown b' k hk with ⟨rfl,_⟩ | ⟨_,h4⟩
  ·have h:G.γ b'=some r:=h
   rw [hres.1] at h
   cases h
  ·exact h2 k h4
 ·intro j x va n ks vs h hx
  rcases hget j _ h with ⟨rfl,h'⟩ | ⟨hj,h3⟩
  ·cases h'
   obtain ⟨h1,es,ck,rfl,h2⟩:=hlin x va n ks vs rfl hx
   refine ⟨h1,es,ck,?_,h2⟩
   simp only [if_true]
   exact hb
  ·obtain ⟨h1,es,ck,h2,h4⟩:=m.lins j x va n ks vs h3 hx
   refine ⟨h1,es,ck,?_,h4⟩
   simp only
   rw [if_neg hj]
   exact h2
 ·intro b' x h
  obtain ⟨h1,h2,h3⟩:=m.frn b' x h
  refine ⟨h1,fun k hk=>?_,h3⟩
  rcases hown b' k hk with ⟨rfl,_⟩ | ⟨_,h4⟩
  ·have h:G.φ b'=some x:=h
   rw [hres.2] at h
   cases h
  ·exact h2 k h4
 ·refine m.obs.keep rfl (SgLe.refl _) (fun j cs' h ho=>?_) (fun j=>?_) fun j e h=>?_
  ·rcases hget j _ h with ⟨rfl,h'⟩ | ⟨hj,h3⟩
   ·cases h'
    rcases ho with ho | ho
    ·rw [bL hna] at ho; cases ho
    ·rw [hT hna] at ho; cases ho
   ·exact h3
  ·by_cases hj:j=id
   ·subst hj
    exact .inr ⟨by rw [hfree]; rfl,hcl⟩
   ·exact .inl (by simp only; rw [if_neg hj])
  ·rcases hget j _ h with ⟨rfl,_⟩ | ⟨hj,h3⟩
   ·exact .inr (.inr hcl)
   ·exact .inl h3
 ·intro j x va n ks vs h
  rcases hget j _ h with ⟨rfl,h'⟩ | ⟨_,h3⟩
  ·cases h'
   exact hmn x va n ks vs rfl
  ·exact m.mnp j x va n ks vs h3
theorem Mem.addVar (m:Mem F B np w0 ext σ0 G hp tk w) (id b:Nat) (cs:List D) (c:Array Value) (e:TypeId)
  (hb:w.heap[b]? = some (.cells c e (0,0))) (hs:aI cs=true) (hc:c.size=cs.length)
  (hr:∀ j,j < cs.length→Rc F { G with β:=fun j=>if j=id then b else G.β j } tk (c.getD j undef) (nth cs j .dead))
  (hσ:∀ o,G.σ b o=none) (hno:∀ k,¬bT G hp tk b k) (hB:B≤b∨(b∈ext∧id < np∧id < ext.length))
  (hfree:hp id=none) (hcl:∀ id' f cs',hp id'=some (f,cs')→names id (id+1) cs'=false) (hres:G.γ b=none∧G.φ b=none) :
  Mem F B np w0 ext σ0 { G with β:=fun j=>if j=id then b else G.β j } (fun j=>bif Nat.beq j id then some (false,cs) else hp j) tk w :=
 m.addObj id b cs _ hb (.inl ⟨hs,c,e,rfl,hc,hr⟩) hσ hno hB hfree hcl hres (fun x va n ks vs h _=>by
  subst h
  cases x <;> cases hs) (fun x va n ks vs h=>by
  subst h
  cases x <;> cases hs)
theorem Mem.addTok (m:Mem F B np w0 ext σ0 G hp tk w) (i z n c:Nat) (a:Option Addr) (hnc:n≤c)
  (hblk:n < c→∃ b cur e,a=some ⟨b,0,none⟩∧w.heap[b]? = some (.cells cur e (0,0))∧cur.size=c * z∧(∀ o,n * z≤o→G.σ b o=none)∧(∀ k,k≠.inr i→¬bT G hp tk b k)∧B≤b∧G.γ b=none∧G.φ b=none)
  (hcl:∀ id' f cs',hp id'=some (f,cs')→∀ j,j < cs'.length→(∃ z' m' g,nth cs' j .dead=.slice (.own i) z' m' g)→∃ z0 m0,tk i=some (z0,m0)∧m0≤n∧(m0=n→G.ρ i=.slice a n c)) :
  Mem F B np w0 ext σ0 { G with ρ:=fun j=>if j=i then .slice a n c else G.ρ j } hp (fun j=>bif Nat.beq j i then some (z,n) else tk j) w:=by
 have hget:∀ j x,(bif Nat.beq j i then some (z,n) else tk j)=some x→(j=i∧x=(z,n))∨(j≠i∧tk j=some x):=by
  intro j x h
  by_cases hj:j=i
  ·subst hj
   rw [Nat.beq_refl] at h
   simp only [cond_true,Option.some.injEq] at h
   exact .inl ⟨rfl,h.symm⟩
  ·have:Nat.beq j i=false:=by
    cases hh:Nat.beq j i with
    | false=>rfl
    | true=>exact absurd (Nat.eq_of_beq_eq_true hh) hj
   rw [this] at h
   exact .inr ⟨hj,h⟩
 have hown:∀ b' k,bT { G with ρ:=fun j=>if j=i then .slice a n c else G.ρ j } hp (fun j=>bif Nat.beq j i then some (z,n) else tk j) b' k →
   (k=.inr i∧a=some ⟨b',0,none⟩∧n < c)∨(k≠.inr i∧bT G hp tk b' k):=by
  intro b' k h
  cases k with
  | inl j=>exact .inr ⟨by simp,h⟩
  | inr j =>
   obtain ⟨z',n',c',h1,h2,h3⟩:=h
   simp only at h1 h2
   rcases hget j _ h1 with ⟨rfl,h'⟩ | ⟨hj,h4⟩
   ·cases h'
    rw [if_pos rfl] at h2
    cases h2
    exact .inl ⟨rfl,rfl,h3⟩
   ·rw [if_neg hj] at h2
    exact .inr ⟨fun hh=>hj (Sum.inr.inj hh),z',n',c',h4,h2,h3⟩
 refine ⟨m.stab,m.old,m.os,m.tape,m.output,m.base,m.keep,?_,m.rows,m.froz,?_,?_,?_,?_,m.lins,?_,m.omono,m.obs.same rfl (SgLe.refl _) rfl,m.mnp⟩
 ·intro id cs h hna
  obtain ⟨o',h1,h4,h5⟩:=m.vars id cs h hna
  refine ⟨o',h1,h4.imp fun j v hj hr=>?_,h5⟩
  have hcl':=hcl id _ cs h j hj
  generalize nth cs j .dead=d at hr hcl' ⊢
  cases hr with
  | pure h6 h7 =>
   refine .pure h6 ?_
   cases d with
   | slice t zz l g =>
    cases t with
    | ro=>trivial
    | full=>exact h7
    | own i' =>
     intro z' m' hz'
     rcases hget i' _ hz' with ⟨rfl,h'⟩ | ⟨hj',h8⟩
     ·cases h'
      obtain ⟨z0,m0,e1,e2,e3⟩:=hcl' ⟨zz,l,g,rfl⟩
      obtain ⟨e4,e5⟩:=h7 z0 m0 e1
      refine ⟨by omega,fun e6=>?_⟩
      simp only [if_true]
      rw [← e3 (by omega)]
      exact e5 (by omega)
     ·simp only
      rw [if_neg hj']
      exact h7 z' m' h8
   | _=>trivial
  | ptr id off=>exact .ptr id off
  | eptr b o l h6=>exact .eptr b o l h6
  | fn f cap l h6 h7=>exact .fn f cap l h6 h7
  | mp vk vv va n ks vs e1 e2 e3 e4=>exact .mp vk vv va n ks vs e1 e2 e3 e4
 ·intro j z' n' h
  rcases hget j _ h with ⟨rfl,h'⟩ | ⟨hj,h4⟩
  ·cases h'
   refine ⟨a,c,by simp,hnc,fun hlt=>?_⟩
   obtain ⟨b,cur,e,h1,h2,h3,h5,_⟩:=hblk hlt
   exact ⟨b,cur,e,h1,h2,h3,h5⟩
  ·simp only
   rw [if_neg hj]
   exact m.toks j z' n' h4
 ·intro b' k k' h h'
  rcases hown b' k h with ⟨rfl,ha,hlt⟩ | ⟨hne,h1⟩
  ·rcases hown b' k' h' with ⟨rfl,_⟩ | ⟨hne',h2⟩
   ·rfl
   ·obtain ⟨b,cur,e,e1,_,_,_,e2,_⟩:=hblk hlt
    rw [ha] at e1
    cases e1
    exact absurd h2 (e2 k' hne')
  ·rcases hown b' k' h' with ⟨rfl,ha,hlt⟩ | ⟨_,h2⟩
   ·obtain ⟨b,cur,e,e1,_,_,_,e2,_⟩:=hblk hlt
    rw [ha] at e1
    cases e1
    exact absurd h1 (e2 k hne)
   ·exact m.own1 b' k k' h1 h2
 ·intro b' k h
  rcases hown b' k h with ⟨rfl,ha,hlt⟩ | ⟨_,h1⟩
  ·obtain ⟨b,cur,e,e1,_,_,_,_,e3,_⟩:=hblk hlt
   rw [ha] at e1
   cases e1
   exact .inl e3
  ·exact m.own2 b' k h1
 ·intro b' r h
  obtain ⟨h1,h2,h3⟩:=m.resv b' r h
  refine ⟨h1,fun k hk=>?_,h3⟩
  rcases hown b' k hk with ⟨_,ha,hlt⟩ | ⟨_,h4⟩
  ·obtain ⟨b,cur,e,e1,_,_,_,_,_,e3⟩:=hblk hlt
   rw [ha] at e1
   cases e1
   have h:G.γ b'=some r:=h
   rw [e3.1] at h
   cases h
  ·exact h2 k h4
 ·intro b' x h
  obtain ⟨h1,h2,h3⟩:=m.frn b' x h
  refine ⟨h1,fun k hk=>?_,h3⟩
  rcases hown b' k hk with ⟨_,ha,hlt⟩ | ⟨_,h4⟩
  ·obtain ⟨b,cur,e,e1,_,_,_,_,_,e3⟩:=hblk hlt
   rw [ha] at e1
   cases e1
   have h:G.φ b'=some x:=h
   rw [e3.2] at h
   cases h
  ·exact h2 k h4
end
section
variable {F:Nat→FuncId} {B np:Nat} {w0 w w':World} {ext:List Nat} {σ0:Og} {G:Gh} {hp:Nat→Option (Bool×List D)} {tk:Nat→Option (Nat×Nat)}
theorem aN {α:Type} {f:Nat→Option α} {i:Nat} {e:α} {j:Nat} {x:α} (h:(bif Nat.beq j i then some e else f j)=some x):(j=i∧x=e)∨(j≠i∧f j=some x):=by
 by_cases hj:j=i
 ·subst hj
  rw [Nat.beq_refl] at h
  simp only [cond_true,Option.some.injEq] at h
  exact .inl ⟨rfl,h.symm⟩
 ·have:Nat.beq j i=false:=by
   cases hh:Nat.beq j i with
   | false=>rfl
   | true=>exact absurd (Nat.eq_of_beq_eq_true hh) hj
  rw [this] at h
  exact .inr ⟨hj,h⟩
structure jV (b:Nat) (w w':World):Prop where
 os:w'.os=w.os
 tape:w'.tape=w.tape
 output:w'.output=w.output
 size:w'.heap.size=w.heap.size
 other:∀ k,k≠b→w'.heap[k]? = w.heap[k]?
theorem Mem.setObj (m:Mem F B np w0 ext σ0 G hp tk w) (id:Nat) (cs cs':List D) (h:hp id=some (false,cs)) (ob:Obj) (hw:jV (G.β id) w w')
  (hb:w'.heap[G.β id]? = some ob) (hna:fH cs=false) (hr:HoldsO F G tk ob cs')
  (hlin:∀ x va n ks vs,cs'=[x,.mp va n ks vs]→x≠.dead→(va=true∧(x=.nilp∨∃ k,x=.str k))∧∃ es ck,ob=.map es ck∧LinR G.γ id x n ks vs (uL es)) (hmn:∀ x va n ks vs,cs'=[x,.mp va n ks vs]→np≤id) :
  Mem F B np w0 ext σ0 G (fun j=>bif Nat.beq j id then some (false,cs') else hp j) tk w':=by
 have hna':=hr.noArr
 have hown:∀ b k,bT G (fun j=>bif Nat.beq j id then some (false,cs') else hp j) tk b k→bT G hp tk b k:=by
  intro b k hk
  cases k with
  | inl j =>
   obtain ⟨x,h1,h2⟩:=hk
   rcases aN h1 with ⟨rfl,hx⟩ | ⟨_,h3⟩
   ·cases hx
    exact ⟨cs,h,.inl ⟨hna,h2.flat hna'⟩⟩
   ·exact ⟨x,h3,h2⟩
  | inr i=>exact hk
 have hne:∀ b k,bT G hp tk b k→k≠.inl id→b≠G.β id:=by
  intro b k hk hkk hbb
  subst hbb
  exact hkk (m.own1 _ _ _ hk ⟨cs,h,.inl ⟨hna,rfl⟩⟩)
 obtain ⟨_,_,_,hσ⟩:=m.vars id cs h hna
 refine ⟨?_,m.old,hw.os.trans m.os,hw.tape.trans m.tape,hw.output.trans m.output,by rw [hw.size]; exact m.base,?_,?_,?_,?_,?_,?_,?_,?_,?_,?_,m.omono,?_,?_⟩
 ·intro b o v hv
  obtain ⟨h1,c,e',fz,h2,h3⟩:=m.stab b o v hv
  refine ⟨h1,c,e',fz,?_,h3⟩
  rw [hw.other b (fun hbb=>by rw [hbb,hσ o] at hv; cases hv)]
  exact h2
 ·intro b hB he hf
  rw [hw.other b (fun hbb=>?_)]
  ·exact m.keep b hB he hf
  ·rcases m.own2 (G.β id) (.inl id) ⟨cs,h,.inl ⟨hna,rfl⟩⟩ with h1 | ⟨h1,_⟩
   ·omega
   ·exact he (hbb ▸ h1)
 ·intro j x hx hnx
  rcases aN hx with ⟨rfl,hx'⟩ | ⟨hj,h3⟩
  ·cases hx'
   exact ⟨ob,hb,hr,hσ⟩
  ·obtain ⟨o',h1,h4,h5⟩:=m.vars j x h3 hnx
   refine ⟨o',?_,h4,h5⟩
   rw [hw.other _ (hne _ (.inl j) ⟨x,h3,.inl ⟨hnx,rfl⟩⟩ (fun hh=>hj (Sum.inl.inj hh)))]
   exact h1
 ·intro j fw z n g hx
  rcases aN hx with ⟨rfl,hx'⟩ | ⟨hj,h3⟩
  ·cases hx'
   cases hna'
  ·obtain ⟨a,c,h1,h2⟩:=m.rows j fw z n g h3
   refine ⟨a,c,h1,fun b hb hc=>?_⟩
   obtain ⟨h4,o',h5,h6⟩:=h2 b hb hc
   refine ⟨h4,o',?_,h6⟩
   rw [hw.other _ (hne _ (.inl j) ⟨_,h3,.inr ⟨fw,z,n,g,c,rfl,by rw [h1.at_,hb],hc⟩⟩ (fun hh=>hj (Sum.inl.inj hh)))]
   exact h5
 ·intro j x hx i hi
  rcases aN hx with ⟨rfl,hx'⟩ | ⟨hj,h3⟩
  ·cases hx'
  ·exact m.froz j x h3 i hi
 ·intro i z n hi
  obtain ⟨a,c,h1,h2,h3⟩:=m.toks i z n hi
  refine ⟨a,c,h1,h2,fun hn=>?_⟩
  obtain ⟨b,cur,e',h4,h5,h6,h7⟩:=h3 hn
  refine ⟨b,cur,e',h4,?_,h6,h7⟩
  rw [hw.other b (hne b (.inr i) ⟨z,n,c,hi,by rw [h1,h4],hn⟩ (by simp))]
  exact h5
 ·exact fun b k k' hk hk'=>m.own1 b k k' (hown b k hk) (hown b k' hk')
 ·exact fun b k hk=>m.own2 b k (hown b k hk)
 ·intro b r hb2
  obtain ⟨h1,h2,h3,cur,e',h4,h5⟩:=m.resv b r hb2
  refine ⟨h1,fun k hk=>h2 k (hown b k hk),h3,cur,e',?_,h5⟩
  rw [hw.other b (fun hbb=>h2 (.inl id) ⟨cs,h,.inl ⟨hna,hbb.symm⟩⟩)]
  exact h4
 ·intro j x va n ks vs hx hxd
  rcases aN hx with ⟨rfl,hx'⟩ | ⟨hj,h3⟩
  ·cases hx'
   obtain ⟨h1,es,ck,rfl,h2⟩:=hlin x va n ks vs rfl hxd
   exact ⟨h1,es,ck,hb,h2⟩
  ·obtain ⟨h1,es,ck,h2,h4⟩:=m.lins j x va n ks vs h3 hxd
   refine ⟨h1,es,ck,?_,h4⟩
   rw [hw.other _ (hne _ (.inl j) ⟨_,h3,.inl ⟨by cases x <;> rfl,rfl⟩⟩ (fun hh=>hj (Sum.inl.inj hh)))]
   exact h2
 ·intro b x hb2
  obtain ⟨h1,h2,h3,h4,h5⟩:=m.frn b x hb2
  refine ⟨h1,fun k hk=>h2 k (hown b k hk),h3,h4,?_⟩
  rw [hw.other b (fun hbb=>h2 (.inl id) ⟨cs,h,.inl ⟨hna,hbb.symm⟩⟩)]
  exact h5
 ·refine m.obs.keep rfl (SgLe.refl _) (fun j x hx ho=>?_) (fun _=>.inl rfl) fun j e hx=>?_
  ·rcases aN hx with ⟨rfl,hx'⟩ | ⟨hj,h3⟩
   ·cases hx'
    rcases ho with ho | ho
    ·rw [bL hna'] at ho; cases ho
    ·rw [hT hna'] at ho; cases ho
   ·exact h3
  ·rcases aN hx with ⟨rfl,_⟩ | ⟨_,h3⟩
   ·exact .inr (.inl ⟨_,h,.inl (bL hna)⟩)
   ·exact .inl h3
 ·intro j x va n ks vs hx
  rcases aN hx with ⟨rfl,hx'⟩ | ⟨_,h3⟩
  ·cases hx'
   exact hmn x va n ks vs rfl
  ·exact m.mnp j x va n ks vs h3
theorem Mem.setVar (m:Mem F B np w0 ext σ0 G hp tk w) (id:Nat) (cs cs':List D) (h:hp id=some (false,cs)) (c':Array Value) (e:TypeId) (hw:jV (G.β id) w w')
  (hb:w'.heap[G.β id]? = some (.cells c' e (0,0))) (hna:fH cs=false) (hs:aI cs'=true) (hlen:c'.size=cs'.length) (hr:∀ j,j < cs'.length→Rc F G tk (c'.getD j undef) (nth cs' j .dead)) :
  Mem F B np w0 ext σ0 G (fun j=>bif Nat.beq j id then some (false,cs') else hp j) tk w' :=
 m.setObj id cs cs' h _ hw hb hna (.inl ⟨hs,c',e,rfl,hlen,hr⟩) (fun x va n ks vs h _=>by
  subst h
  cases x <;> cases hs) (fun x va n ks vs h=>by
  subst h
  cases x <;> cases hs)
theorem Mem.freezeVar (m:Mem F B np w0 ext σ0 G hp tk w) (id:Nat) (cs:List D) (h:hp id=some (false,cs)) (hsol:aI cs=true) (c:Array Value) (e:TypeId) (hb:w.heap[G.β id]? = some (.cells c e (0,0))) (hB:B≤G.β id) :
  Mem F B np w0 ext σ0 { G with σ:=aL G.σ (G.β id) (fun o=>c[o]?) } (fun j=>bif Nat.beq j id then some (true,aM cs) else hp j) tk w:=by
 have hna:=bW hsol
 obtain ⟨o0,hb0,hh0,hσ⟩:=m.vars id cs h hna
 obtain ⟨c0,e0,rfl,hlen,hr⟩:=hh0.cells hsol
 rw [hb] at hb0
 cases hb0
 have hle:SgLe G.σ (aL G.σ (G.β id) (fun o=>c[o]?)):=by
  intro b o v hv
  unfold aL
  rw [if_neg (fun hbb=>by rw [hbb,hσ o] at hv; cases hv)]
  exact hv
 have hget:∀ j,j < cs.length→c[j]? = some (c.getD j undef):=by
  intro j hj
  have:j < c.size:=by omega
  simp [this]
 have hown:∀ b k,bT { G with σ:=aL G.σ (G.β id) (fun o=>c[o]?) } (fun j=>bif Nat.beq j id then some (true,aM cs) else hp j) tk b k→bT G hp tk b k∧k≠.inl id:=by
  intro b k hk
  cases k with
  | inl j =>
   obtain ⟨x,h1,h2⟩:=hk
   rcases aN h1 with ⟨_,hx⟩ | ⟨hj,h3⟩
   ·cases hx
   ·exact ⟨⟨x,h3,h2⟩,fun hh=>hj (Sum.inl.inj hh)⟩
  | inr i=>exact ⟨hk,by simp⟩
 have hne:∀ b k,bT G hp tk b k→k≠.inl id→b≠G.β id:=by
  intro b k hk hkk hbb
  subst hbb
  exact hkk (m.own1 _ _ _ hk ⟨cs,h,.inl ⟨hna,rfl⟩⟩)
 refine ⟨?_,?_,m.os,m.tape,m.output,m.base,m.keep,?_,?_,?_,?_,?_,?_,?_,?_,?_,m.omono,?_,?_⟩
 ·intro b o v hv
  by_cases hbb:b=G.β id
  ·subst hbb
   simp only [aL,if_true] at hv
   refine ⟨?_,c,e,(0,0),hb,hv⟩
   have ho:o < cs.length:=by
    have:=(Array.getElem?_eq_some_iff.1 hv).1
    omega
   have:=(hr o ho).oneCell (iW hsol ho) (kJ hsol)
   rw [hget o ho] at hv
   cases hv
   exact this
  ·simp only [aL,if_neg hbb] at hv
   exact m.stab b o v hv
 ·intro b o hb'
  simp only [aL]
  rw [if_neg (by omega)]
  exact m.old b o hb'
 ·intro j x hx hnx
  rcases aN hx with ⟨_,hx'⟩ | ⟨hj,h3⟩
  ·cases hx'
  ·obtain ⟨o',h1,h4,h5⟩:=m.vars j x h3 hnx
   refine ⟨o',h1,h4.imp fun i v hi hr=>hr.more hle,fun o=>?_⟩
   simp only [aL]
   rw [if_neg (hne _ (.inl j) ⟨x,h3,.inl ⟨hnx,rfl⟩⟩ (fun hh=>hj (Sum.inl.inj hh)))]
   exact h5 o
 ·intro j fw z n g hx
  rcases aN hx with ⟨_,hx'⟩ | ⟨hj,h3⟩
  ·cases hx'
  ·obtain ⟨a,c',h1,h2⟩:=m.rows j fw z n g h3
   refine ⟨a,c',h1,fun b hb hc=>?_⟩
   obtain ⟨h4,o',h5,h6⟩:=h2 b hb hc
   refine ⟨fun q=>?_,o',h5,h6.mono hle⟩
   simp only [aL]
   rw [if_neg (hne _ (.inl j) ⟨_,h3,.inr ⟨fw,z,n,g,c',rfl,by rw [h1.at_,hb],hc⟩⟩ (fun hh=>hj (Sum.inl.inj hh)))]
   exact h4 q
 ·intro j x hx i hi
  rcases aN hx with ⟨rfl,hx'⟩ | ⟨hj,h3⟩
  ·cases hx'
   rw [aO] at hi
   refine ⟨c.getD i undef,?_,?_,?_⟩
   ·simp only [aL,if_true]
    exact hget i hi
   ·rw [aU]
    exact (hr i hi).pure1.mono hle
   ·rw [aU,bN]
  ·obtain ⟨v,h4,h5,h6⟩:=m.froz j x h3 i hi
   exact ⟨v,hle _ _ _ h4,h5.mono hle,h6⟩
 ·intro i z n hi
  obtain ⟨a,c',h1,h2,h3⟩:=m.toks i z n hi
  refine ⟨a,c',h1,h2,fun hn=>?_⟩
  obtain ⟨b,cur,e',h4,h5,h6,h7⟩:=h3 hn
  refine ⟨b,cur,e',h4,h5,h6,fun o ho=>?_⟩
  simp only [aL]
  rw [if_neg (hne b (.inr i) ⟨z,n,c',hi,by rw [h1,h4],hn⟩ (by simp))]
  exact h7 o ho
 ·exact fun b k k' hk hk'=>m.own1 b k k' (hown b k hk).1 (hown b k' hk').1
 ·exact fun b k hk=>m.own2 b k (hown b k hk).1
 ·intro b r hb2
  obtain ⟨h1,h2,h3,cur,e',h4,h5⟩:=m.resv b r hb2
  refine ⟨h1,fun k hk=>h2 k (hown b k hk).1,fun o ho=>?_,cur,e',h4,h5⟩
  simp only [aL]
  rw [if_neg (fun hbb=>h2 (.inl id) ⟨cs,h,.inl ⟨hna,hbb.symm⟩⟩)]
  exact h3 o ho
 ·intro j x va n ks vs hx hxd
  rcases aN hx with ⟨_,hx'⟩ | ⟨hj,h3⟩
  ·cases hx'
  ·exact m.lins j x va n ks vs h3 hxd
 ·intro b x hb2
  obtain ⟨h1,h2,h3,h4,h5⟩:=m.frn b x hb2
  refine ⟨h1,fun k hk=>h2 k (hown b k hk).1,fun o=>?_,h4,h5⟩
  simp only [aL]
  rw [if_neg (fun hbb=>h2 (.inl id) ⟨cs,h,.inl ⟨hna,hbb.symm⟩⟩)]
  exact h3 o
 ·refine m.obs.keep rfl hle (fun j x hx ho=>?_) (fun _=>.inl rfl) fun j e hx=>?_
  ·rcases aN hx with ⟨_,hx'⟩ | ⟨_,h3⟩
   ·cases hx'
   ·exact h3
  ·rcases aN hx with ⟨rfl,_⟩ | ⟨_,h3⟩
   ·exact .inr (.inl ⟨_,h,.inl (bL hna)⟩)
   ·exact .inl h3
 ·intro j x va n ks vs hx
  rcases aN hx with ⟨_,hx'⟩ | ⟨_,h3⟩
  ·cases hx'
  ·exact m.mnp j x va n ks vs h3
theorem Mem.setArr (m:Mem F B np w0 ext σ0 G hp tk w) {id z n:Nat} {g:Nat→List D} {fw:Bool} {a:Option Addr} {c:Nat} (h:hp id=some (false,[.dead,.arr fw z n g])) (hη:G.η id n=some (.slice a n c)) {z' n' c':Nat} {g':Nat→List D} {a':Option Addr}
  (hos:w'.os=w.os) (htp:w'.tape=w.tape) (hout:w'.output=w.output) (hsz:w.heap.size≤w'.heap.size) (hoth:∀ k,k < w.heap.size→(∀ b,a=some ⟨b,0,none⟩→0 < c→k≠b)→w'.heap[k]? = w.heap[k]?)
  (hn:n≤n') (hnc:n'≤c') (hsame:n'=n→a'=a∧c'=c) (hmine:id < np→n'=n)
  (hblk:0 < c'→∃ b,a'=some ⟨b,0,none⟩∧((0 < c∧a=some ⟨b,0,none⟩)∨w.heap.size≤b)∧∃ o,w'.heap[b]? = some o∧RowO G.σ o z' n' c' g') (lo hi:Nat) :
  Mem F B np w0 ext σ0 { G with η:=fun i k=>if i=id∧k=n' then some (.slice a' n' c') else G.η i k } (fun j=>bif Nat.beq j id then some (false,[.dead,.arr fw z' n' g']) else hp j) tk w' ∧
  Keeps lo hi G { G with η:=fun i k=>if i=id∧k=n' then some (.slice a' n' c') else G.η i k } tk tk:=by
 obtain ⟨a0,c0,hd,hr⟩:=m.rows id fw z n g h
 rw [hd.at_] at hη
 cases hη
 have hkeep:∀ lo hi,Keeps lo hi G { G with η:=fun i k=>if i=id∧k=n' then some (.slice a' n' c') else G.η i k } tk tk:=fun lo hi =>
  ⟨SgLe.refl _,fun _ _=>rfl,fun _ z m _ e=>⟨z,m,e,Nat.le_refl _,fun _=>rfl⟩,fun i k v _ e=>by
   simp only
   by_cases hc:i=id∧k=n'
   ·obtain ⟨rfl,rfl⟩:=hc
    rw [if_pos ⟨rfl,rfl⟩]
    rcases Nat.lt_or_ge n k with h1 | h1
    ·rw [hd.none k h1] at e
     cases e
    ·have:k=n:=by omega
     obtain ⟨rfl,rfl⟩:=hsame this
     subst this
     rw [hd.at_] at e
     exact e
   ·rw [if_neg hc]
    exact e,fun _ x e=>⟨x.ob,e⟩⟩
 refine ⟨?_,hkeep lo hi⟩
 have howner:∀ b,a=some ⟨b,0,none⟩→0 < c→bT G hp tk b (.inl id):=fun b hb hc=>⟨_,h,.inr ⟨fw,z,n,g,c,rfl,by rw [hd.at_,hb],hc⟩⟩
 have hown:∀ b k,bT { G with η:=fun i k=>if i=id∧k=n' then some (.slice a' n' c') else G.η i k } (fun j=>bif Nat.beq j id then some (false,[.dead,.arr fw z' n' g']) else hp j) tk b k→bT G hp tk b k∨(w.heap.size≤b∧k=.inl id):=by
  intro b k hk
  cases k with
  | inl j =>
   obtain ⟨x,h1,h2⟩:=hk
   rcases aN h1 with ⟨rfl,hx⟩ | ⟨hj,h3⟩
   ·cases hx
    have h2:Blk _ j _ b:=h2
    rcases h2 with ⟨h4,_⟩ | ⟨_,_,_,_,c2,h4,h5,h6⟩
    ·cases h4
    ·cases h4
     simp only [and_self,if_true] at h5
     cases h5
     obtain ⟨b2,h7,h8,_⟩:=hblk h6
     cases h7
     rcases h8 with ⟨h8,h9⟩ | h8
     ·exact .inl (howner b h9 h8)
     ·exact .inr ⟨h8,rfl⟩
   ·exact .inl ⟨x,h3,h2.congr rfl fun k=>by simp only; rw [if_neg (fun hc=>hj hc.1)]⟩
  | inr i=>exact .inl hk
 have hne:∀ b k,bT G hp tk b k→k≠.inl id→w'.heap[b]? = w.heap[b]?:=by
  intro b k hk hkk
  refine hoth b (m.own_lt hk) fun b2 h1 h2 hbb=>?_
  subst hbb
  exact hkk (m.own1 _ _ _ hk (howner b h1 h2))
 refine ⟨?_,m.old,hos.trans m.os,htp.trans m.tape,hout.trans m.output,Nat.le_trans m.base hsz,?_,?_,?_,?_,?_,?_,?_,?_,?_,?_,m.omono,?_,?_⟩
 ·intro b o v hv
  obtain ⟨h1,c1,e',fz,h2,h3⟩:=m.stab b o v hv
  refine ⟨h1,c1,e',fz,?_,h3⟩
  rw [hoth b (m.lt hv) fun b2 h4 h5 hbb=>?_]
  ·exact h2
  ·subst hbb
   have:=(hr b h4 h5).1 o
   rw [this] at hv
   cases hv
 ·intro b hB he hf
  rw [hoth b (Nat.lt_of_lt_of_le hB m.base) fun b2 h4 h5 hbb=>?_]
  ·exact m.keep b hB he hf
  ·subst hbb
   rcases m.own2 b _ (howner b h4 h5) with h1 | ⟨h1,_⟩
   ·omega
   ·exact he h1
 ·intro j x hx hnx
  rcases aN hx with ⟨rfl,hx'⟩ | ⟨hj,h3⟩
  ·cases hx'
   cases hnx
  ·obtain ⟨o',h1,h4,h5⟩:=m.vars j x h3 hnx
   refine ⟨o',?_,h4.imp fun q v _ hr=>hr.keep (hkeep 0 0) (bO _),h5⟩
   rw [hne _ (.inl j) ⟨x,h3,.inl ⟨hnx,rfl⟩⟩ (fun hh=>hj (Sum.inl.inj hh))]
   exact h1
 ·intro j fw2 z2 n2 g2 hx
  rcases aN hx with ⟨rfl,hx'⟩ | ⟨hj,h3⟩
  ·cases hx'
   refine ⟨a',c',⟨by simp,hnc,fun k hk=>?_,fun hlt=>?_,fun hc=>?_⟩,fun b hb hc=>?_⟩
   ·simp only
    rw [if_neg (by omega)]
    exact hd.none k (by omega)
   ·obtain ⟨h1,h2⟩:=hd.mine hlt
    have h3:=hmine hlt
    obtain ⟨rfl,rfl⟩:=hsame h3
    rw [h3]
    exact ⟨h1,h2⟩
   ·obtain ⟨b,h1,_⟩:=hblk hc
    exact ⟨b,h1⟩
   ·obtain ⟨b2,h1,h2,o,h3,h4⟩:=hblk hc
    rw [hb] at h1
    cases h1
    refine ⟨fun q=>?_,o,h3,h4⟩
    rcases h2 with ⟨h5,h6⟩ | h5
    ·exact (hr b h6 h5).1 q
    ·cases hq:G.σ b q with
     | none=>rfl
     | some v=>have:=m.lt hq; omega
  ·obtain ⟨a1,c1,h1,h2⟩:=m.rows j fw2 z2 n2 g2 h3
   refine ⟨a1,c1,⟨?_,h1.le,fun k hk=>?_,h1.mine,h1.blk⟩,fun b hb hc=>?_⟩
   ·simp only
    rw [if_neg (fun hc=>hj hc.1)]
    exact h1.at_
   ·simp only
    rw [if_neg (fun hc=>hj hc.1)]
    exact h1.none k hk
   ·obtain ⟨h4,o',h5,h6⟩:=h2 b hb hc
    refine ⟨h4,o',?_,h6⟩
    rw [hne _ (.inl j) ⟨_,h3,.inr ⟨fw2,z2,n2,g2,c1,rfl,by rw [h1.at_,hb],hc⟩⟩ (fun hh=>hj (Sum.inl.inj hh))]
    exact h5
 ·intro j x hx i hi
  rcases aN hx with ⟨rfl,hx'⟩ | ⟨hj,h3⟩
  ·cases hx'
  ·exact m.froz j x h3 i hi
 ·intro i z2 n2 hi
  obtain ⟨a1,c1,h1,h2,h3⟩:=m.toks i z2 n2 hi
  refine ⟨a1,c1,h1,h2,fun hlt=>?_⟩
  obtain ⟨b,cur,e',h4,h5,h6,h7⟩:=h3 hlt
  refine ⟨b,cur,e',h4,?_,h6,h7⟩
  rw [hne b (.inr i) ⟨z2,n2,c1,hi,by rw [h1,h4],hlt⟩ (by simp)]
  exact h5
 ·intro b k k' hk hk'
  rcases hown b k hk with h1 | ⟨h1,rfl⟩
  ·rcases hown b k' hk' with h2 | ⟨h2,_⟩
   ·exact m.own1 b k k' h1 h2
   ·have:=m.own_lt h1
    omega
  ·rcases hown b k' hk' with h2 | ⟨_,rfl⟩
   ·have:=m.own_lt h2
    omega
   ·rfl
 ·intro b k hk
  rcases hown b k hk with h1 | ⟨h1,_⟩
  ·exact m.own2 b k h1
  ·exact .inl (Nat.le_trans m.base h1)
 ·intro b r hb2
  obtain ⟨h1,h2,h3,cur,e',h4,h5⟩:=m.resv b r hb2
  have hlt:=(Array.getElem?_eq_some_iff.1 h4).1
  refine ⟨h1,fun k hk=>?_,h3,cur,e',?_,h5⟩
  ·rcases hown b k hk with h6 | ⟨h6,_⟩
   ·exact h2 k h6
   ·omega
  ·rw [hoth b hlt fun b2 h6 h7 hbb=>?_]
   ·exact h4
   ·subst hbb
    exact h2 _ (howner b h6 h7)
 ·intro j x va n2 ks vs hx hxd
  rcases aN hx with ⟨_,hx'⟩ | ⟨hj,h3⟩
  ·cases hx'
  ·obtain ⟨h1,es,ck,h2,h4⟩:=m.lins j x va n2 ks vs h3 hxd
   refine ⟨h1,es,ck,?_,h4⟩
   rw [hne _ (.inl j) ⟨_,h3,.inl ⟨by cases x <;> rfl,rfl⟩⟩ (fun hh=>hj (Sum.inl.inj hh))]
   exact h2
 ·intro b x hb2
  obtain ⟨h1,h2,h3,h4,h5⟩:=m.frn b x hb2
  have hlt:=(Array.getElem?_eq_some_iff.1 h5).1
  refine ⟨h1,fun k hk=>?_,h3,h4,?_⟩
  ·rcases hown b k hk with h6 | ⟨h6,_⟩
   ·exact h2 k h6
   ·omega
  ·rw [hoth b hlt fun b2 h6 h7 hbb=>?_]
   ·exact h5
   ·subst hbb
    exact h2 _ (howner b h6 h7)
 ·refine m.obs.keep rfl (SgLe.refl _) (fun j x hx ho=>?_) (fun _=>.inl rfl) fun j e hx=>?_
  ·rcases aN hx with ⟨rfl,hx'⟩ | ⟨hj,h3⟩
   ·cases hx'
    rcases ho with ho | ho <;> cases ho
   ·exact h3
  ·rcases aN hx with ⟨rfl,_⟩ | ⟨_,h3⟩
   ·exact .inr (.inl ⟨_,h,.inl rfl⟩)
   ·exact .inl h3
 ·intro j x va n ks vs hx
  rcases aN hx with ⟨_,hx'⟩ | ⟨_,h3⟩
  ·cases hx'
  ·exact m.mnp j x va n ks vs h3
theorem Gh.same {G:Gh} {id n:Nat} {v:Value} (h:G.η id n=some v):{ G with η:=fun i k=>if i=id∧k=n then some v else G.η i k }=G:=by
 cases G with
 | mk σ β ρ η γ φ =>
  congr 1
  funext i k
  by_cases hc:i=id∧k=n
  ·obtain ⟨rfl,rfl⟩:=hc
   simp only [and_self,if_true]
   exact h.symm
  ·simp only
   rw [if_neg hc]
theorem Mem.growTok (m:Mem F B np w0 ext σ0 G hp tk w) (i z n k c b:Nat) (cur cur':Array Value) (e:TypeId) (news:List Value) (h:tk i=some (z,n))
  (hρ:G.ρ i=.slice (some ⟨b,0,none⟩) n c) (hroom:n+k≤c) (hk:0 < k) (hb:w.heap[b]? = some (.cells cur e (0,0))) (hcs:cur.size=c * z)
  (hw:jV b w w') (hb':w'.heap[b]? = some (.cells cur' e (0,0))) (hsz:cur'.size=cur.size) (hlen:news.length=k * z) (h1:∀ v∈news,v.oneCell'=true)
  (hold:∀ o,o < n * z→cur'[o]? = cur[o]?) (hnew:∀ o,o < k * z→cur'[n * z+o]? = news[o]?) :
  Mem F B np w0 ext σ0 { G with σ:=fun b' o=>if b'=b∧n * z≤o∧o < (n+k) * z then cur'[o]? else G.σ b' o,ρ:=fun j=>if j=i then .slice (some ⟨b,0,none⟩) (n+k) c else G.ρ j } hp
   (fun j=>bif Nat.beq j i then some (z,n+k) else tk j) w' ∧
  SgLe G.σ (fun b' o=>if b'=b∧n * z≤o∧o < (n+k) * z then cur'[o]? else G.σ b' o):=by
 obtain ⟨a0,c0,e0,hnc,htail⟩:=m.toks i z n h
 rw [hρ] at e0
 cases e0
 have hlt:n < c:=by omega
 obtain ⟨b0,cur0,e0,hb0,hh0,hcs0,hσ⟩:=htail hlt
 cases hb0
 have hmul:(n+k) * z=n * z+k * z:=Nat.add_mul _ _ _
 have hle:SgLe G.σ (fun b' o=>if b'=b∧n * z≤o∧o < (n+k) * z then cur'[o]? else G.σ b' o):=by
  intro b' o v hv
  by_cases hc:b'=b∧n * z≤o∧o < (n+k) * z
  ·rw [hc.1,hσ o hc.2.1] at hv
   cases hv
  ·simp only
   rw [if_neg hc]
   exact hv
 have howner:bT G hp tk b (.inr i):=⟨z,n,c,h,hρ,hlt⟩
 have hne:∀ b' k',bT G hp tk b' k'→k'≠.inr i→b'≠b:=by
  intro b' k' hk' hkk hbb
  subst hbb
  exact hkk (m.own1 _ _ _ hk' howner)
 refine ⟨?_,hle⟩
 have hown:∀ b' k',bT { G with σ:=fun b' o=>if b'=b∧n * z≤o∧o < (n+k) * z then cur'[o]? else G.σ b' o,ρ:=fun j=>if j=i then .slice (some ⟨b,0,none⟩) (n+k) c else G.ρ j } hp
   (fun j=>bif Nat.beq j i then some (z,n+k) else tk j) b' k'→bT G hp tk b' k':=by
  intro b' k' hk'
  cases k' with
  | inl j=>exact hk'
  | inr j =>
   obtain ⟨z',n',c',h2,h3,h4⟩:=hk'
   rcases aN h2 with ⟨rfl,hx⟩ | ⟨hj,h5⟩
   ·cases hx
    simp only [if_true] at h3
    cases h3
    exact howner
   ·simp only at h3
    rw [if_neg hj] at h3
    exact ⟨z',n',c',h5,h3,h4⟩
 have hkeep:∀ v d,Rc F G tk v d→Rc F { G with σ:=fun b' o=>if b'=b∧n * z≤o∧o < (n+k) * z then cur'[o]? else G.σ b' o,ρ:=fun j=>if j=i then .slice (some ⟨b,0,none⟩) (n+k) c else G.ρ j }
   (fun j=>bif Nat.beq j i then some (z,n+k) else tk j) v d:=by
  intro v d hr
  refine Rc.keep (G:=G) (G':={ G with σ:=fun b' o=>if b'=b∧n * z≤o∧o < (n+k) * z then cur'[o]? else G.σ b' o,ρ:=fun j=>if j=i then .slice (some ⟨b,0,none⟩) (n+k) c else G.ρ j }) (tk:=tk) (lo:=0) (hi:=0) ⟨hle,fun _ _=>rfl,?_,fun _ _ _ _ e=>e,fun _ x e=>⟨x.ob,e⟩⟩ (bO d) hr
  intro j z' m' _ hz'
  rcases aN hz' with ⟨rfl,hx⟩ | ⟨hj,h5⟩
  ·cases hx
   exact ⟨z,n,h,by omega,fun hh=>by omega⟩
  ·exact ⟨z',m',h5,Nat.le_refl _,fun _=>by simp only; rw [if_neg hj]⟩
 refine ⟨?_,?_,hw.os.trans m.os,hw.tape.trans m.tape,hw.output.trans m.output,by rw [hw.size]; exact m.base,?_,?_,?_,?_,?_,?_,?_,?_,?_,?_,m.omono,m.obs.same rfl hle rfl,m.mnp⟩
 ·intro b' o v hv
  simp only at hv
  by_cases hc:b'=b∧n * z≤o∧o < (n+k) * z
  ·rw [if_pos hc] at hv
   obtain ⟨rfl,h2,h3⟩:=hc
   refine ⟨?_,cur',e,(0,0),hb',hv⟩
   have h4:=hnew (o - n * z) (by omega)
   rw [show n * z+(o - n * z)=o from by omega,hv] at h4
   exact h1 v (List.mem_of_getElem? h4.symm)
  ·rw [if_neg hc] at hv
   obtain ⟨h2,c',e',fz,h3,h4⟩:=m.stab b' o v hv
   by_cases hbb:b'=b
   ·subst hbb
    have ho:o < n * z:=by
     rcases Nat.lt_or_ge o (n * z) with h5 | h5
     ·exact h5
     ·rw [hσ o h5] at hv; cases hv
    rw [hb] at h3
    cases h3
    exact ⟨h2,cur',e,(0,0),hb',by rw [hold o ho]; exact h4⟩
   ·exact ⟨h2,c',e',fz,by rw [hw.other b' hbb]; exact h3,h4⟩
 ·intro b' o hB
  simp only
  by_cases hc:b'=b∧n * z≤o∧o < (n+k) * z
  ·rcases m.own2 b _ howner with h2 | ⟨_,id,h2,_⟩
   ·omega
   ·cases h2
  ·rw [if_neg hc]
   exact m.old b' o hB
 ·intro b' hB he hf
  rw [hw.other b' (fun hbb=>?_)]
  ·exact m.keep b' hB he hf
  ·rcases m.own2 b _ howner with h2 | ⟨h2,_⟩
   ·omega
   ·exact he (hbb ▸ h2)
 ·intro j x hx hnx
  obtain ⟨o',h2,h4,h5⟩:=m.vars j x hx hnx
  have hbb:=hne _ (.inl j) ⟨x,hx,.inl ⟨hnx,rfl⟩⟩ (by simp)
  refine ⟨o',by rw [hw.other _ hbb]; exact h2,h4.imp fun q v hq hr=>hkeep _ _ hr,fun o=>?_⟩
  simp only
  rw [if_neg (fun hc=>hbb hc.1)]
  exact h5 o
 ·intro j fw z' n' g hx
  obtain ⟨a,c',h1,h2⟩:=m.rows j fw z' n' g hx
  refine ⟨a,c',h1,fun b' hb' hc=>?_⟩
  obtain ⟨h4,o',h5,h6⟩:=h2 b' hb' hc
  have hbb:=hne _ (.inl j) ⟨_,hx,.inr ⟨fw,z',n',g,c',rfl,by rw [h1.at_,hb'],hc⟩⟩ (by simp)
  refine ⟨fun q=>?_,o',by rw [hw.other _ hbb]; exact h5,h6.mono hle⟩
  simp only
  rw [if_neg (fun hc=>hbb hc.1)]
  exact h4 q
 ·intro j x hx q hq
  obtain ⟨v,h2,h3,h4⟩:=m.froz j x hx q hq
  exact ⟨v,hle _ _ _ h2,h3.mono hle,h4⟩
 ·intro j z' n' hj
  rcases aN hj with ⟨rfl,hx⟩ | ⟨hji,h5⟩
  ·cases hx
   refine ⟨some ⟨b,0,none⟩,c,by simp,hroom,fun _=>⟨b,cur',e,rfl,hb',by rw [hsz,hcs],fun o ho=>?_⟩⟩
   simp only
   rw [if_neg (by omega)]
   exact hσ o (by have:=Nat.mul_le_mul_right z (show n≤n+k by omega); omega)
  ·obtain ⟨a,c',h2,h3,h4⟩:=m.toks j z' n' h5
   refine ⟨a,c',by simp only; rw [if_neg hji]; exact h2,h3,fun hn=>?_⟩
   obtain ⟨b2,cur2,e2,h6,h7,h8,h9⟩:=h4 hn
   have hbb:=hne b2 (.inr j) ⟨z',n',c',h5,by rw [h2,h6],hn⟩ (fun hh=>hji (Sum.inr.inj hh))
   refine ⟨b2,cur2,e2,h6,by rw [hw.other _ hbb]; exact h7,h8,fun o ho=>?_⟩
   simp only
   rw [if_neg (fun hc=>hbb hc.1)]
   exact h9 o ho
 ·exact fun b' k1 k2 h2 h3=>m.own1 b' k1 k2 (hown b' k1 h2) (hown b' k2 h3)
 ·exact fun b' k1 h2=>m.own2 b' k1 (hown b' k1 h2)
 ·intro b' r hb2
  obtain ⟨h2,h3,h4,cur2,e2,h5,h6⟩:=m.resv b' r hb2
  have hbb:b'≠b:=fun hh=>h3 _ (hh ▸ howner)
  refine ⟨h2,fun k hk=>h3 k (hown b' k hk),fun o ho=>?_,cur2,e2,by rw [hw.other _ hbb]; exact h5,h6⟩
  simp only
  rw [if_neg (fun hc=>hbb hc.1)]
  exact h4 o ho
 ·intro j x va n' ks vs hx hxd
  obtain ⟨h2,es,ck,h3,h4⟩:=m.lins j x va n' ks vs hx hxd
  refine ⟨h2,es,ck,?_,h4⟩
  rw [hw.other _ (hne _ (.inl j) ⟨_,hx,.inl ⟨by cases x <;> rfl,rfl⟩⟩ (by simp))]
  exact h3
 ·intro b' x hb2
  obtain ⟨h2,h3,h4,h5,h6⟩:=m.frn b' x hb2
  have hbb:b'≠b:=fun hh=>h3 _ (hh ▸ howner)
  refine ⟨h2,fun k hk=>h3 k (hown b' k hk),fun o=>?_,h5,by rw [hw.other _ hbb]; exact h6⟩
  simp only
  rw [if_neg (fun hc=>hbb hc.1)]
  exact h4 o
theorem Mem.addRow (m:Mem F B np w0 ext σ0 G hp tk w) {id z n c:Nat} {ad:Option Addr} {g:Nat→List D} (hnc:n≤c) (hnp:np≤id) (hfree:hp id=none)
  (hblk:0 < c→∃ b cur e,ad=some ⟨b,0,none⟩∧w.heap[b]? = some (.cells cur e (0,0))∧cur.size=c * z∧(∀ o,G.σ b o=none)∧(∀ k,¬bT G hp tk b k)∧B≤b∧(G.γ b=none∧G.φ b=none)∧∀ i,i < n→(g i).length=z∧∀ j,j < z→(cur.getD (i * z+j) undef).oneCell'=true∧Rp G.σ (cur.getD (i * z+j) undef) (nth (g i) j .dead).pure1)
  (hcl:∀ id' f cs',hp id'=some (f,cs')→names id (id+1) cs'=false) :
  Mem F B np w0 ext σ0 { G with η:=fun i k=>if i=id then (if k=n then some (.slice ad n c) else none) else G.η i k } (fun j=>bif Nat.beq j id then some (false,[.dead,.arr true z n g]) else hp j) tk w:=by
 have hk:Keeps id (id+1) G { G with η:=fun i k=>if i=id then (if k=n then some (.slice ad n c) else none) else G.η i k } tk tk :=
  ⟨SgLe.refl _,fun _ _=>rfl,fun _ z m _ e=>⟨z,m,e,Nat.le_refl _,fun _=>rfl⟩,fun i k v hi e=>by simp only; rw [if_neg (by omega)]; exact e,fun _ x e=>⟨x.ob,e⟩⟩
 have hown:∀ b k,bT { G with η:=fun i k=>if i=id then (if k=n then some (.slice ad n c) else none) else G.η i k } (fun j=>bif Nat.beq j id then some (false,[.dead,.arr true z n g]) else hp j) tk b k →
   bT G hp tk b k∨(k=.inl id∧0 < c∧ad=some ⟨b,0,none⟩):=by
  intro b k hk'
  cases k with
  | inl j =>
   obtain ⟨x,h1,h2⟩:=hk'
   rcases aN h1 with ⟨rfl,hx⟩ | ⟨hj,h3⟩
   ·cases hx
    have h2:Blk _ j _ b:=h2
    rcases h2 with ⟨h4,_⟩ | ⟨_,_,_,_,c2,h4,h5,h6⟩
    ·cases h4
    ·cases h4
     simp only [if_true] at h5
     cases h5
     exact .inr ⟨rfl,h6,rfl⟩
   ·exact .inl ⟨x,h3,h2.congr rfl fun k=>by simp only; rw [if_neg hj]⟩
  | inr i=>exact .inl hk'
 refine ⟨m.stab,m.old,m.os,m.tape,m.output,m.base,m.keep,?_,?_,?_,m.toks,?_,?_,?_,?_,?_,m.omono,?_,?_⟩
 ·intro j x hx hnx
  rcases aN hx with ⟨rfl,hx'⟩ | ⟨hj,h3⟩
  ·cases hx'
   cases hnx
  ·obtain ⟨o',h1,h4,h5⟩:=m.vars j x h3 hnx
   exact ⟨o',h1,h4.imp fun q v hq hr=>hr.keep hk (dQ (hcl j _ x h3) hq),h5⟩
 ·intro j fw z2 n2 g2 hx
  rcases aN hx with ⟨rfl,hx'⟩ | ⟨hj,h3⟩
  ·cases hx'
   refine ⟨ad,c,⟨by simp,hnc,fun k hk=>?_,fun hlt=>by omega,fun hc=>?_⟩,fun b hb hc=>?_⟩
   ·simp only [if_true]
    rw [if_neg (by omega)]
   ·obtain ⟨b,_,_,h1,_⟩:=hblk hc
    exact ⟨b,h1⟩
   ·obtain ⟨b2,cur,e,h1,h2,h3,h4,_,_,_,h9⟩:=hblk hc
    rw [hb] at h1
    cases h1
    exact ⟨h4,_,h2,cur,e,rfl,h3,h9⟩
  ·obtain ⟨a1,c1,h1,h2⟩:=m.rows j fw z2 n2 g2 h3
   refine ⟨a1,c1,⟨?_,h1.le,fun k hk=>?_,h1.mine,h1.blk⟩,h2⟩
   ·simp only
    rw [if_neg hj]
    exact h1.at_
   ·simp only
    rw [if_neg hj]
    exact h1.none k hk
 ·intro j x hx i hi
  rcases aN hx with ⟨rfl,hx'⟩ | ⟨hj,h3⟩
  ·cases hx'
  ·exact m.froz j x h3 i hi
 ·intro b k k' hk1 hk2
  rcases hown b k hk1 with h1 | ⟨rfl,h1,h2⟩
  ·rcases hown b k' hk2 with h3 | ⟨rfl,h3,h4⟩
   ·exact m.own1 b k k' h1 h3
   ·obtain ⟨b2,_,_,h5,_,_,_,h6,_⟩:=hblk h3
    rw [h4] at h5
    cases h5
    exact (h6 _ h1).elim
  ·rcases hown b k' hk2 with h3 | ⟨rfl,_,_⟩
   ·obtain ⟨b2,_,_,h5,_,_,_,h6,_⟩:=hblk h1
    rw [h2] at h5
    cases h5
    exact (h6 _ h3).elim
   ·rfl
 ·intro b k hk1
  rcases hown b k hk1 with h1 | ⟨rfl,h1,h2⟩
  ·exact m.own2 b k h1
  ·obtain ⟨b2,_,_,h5,_,_,_,_,h6,_⟩:=hblk h1
   rw [h2] at h5
   cases h5
   exact .inl h6
 ·intro b r hr
  obtain ⟨h1,h2,h3⟩:=m.resv b r hr
  refine ⟨h1,fun k hk1=>?_,h3⟩
  rcases hown b k hk1 with h4 | ⟨_,h4,h5⟩
  ·exact h2 k h4
  ·obtain ⟨b2,_,_,h6,_,_,_,_,_,h7,_⟩:=hblk h4
   rw [h5] at h6
   cases h6
   have hr:G.γ b=some r:=hr
   rw [h7.1] at hr
   cases hr
 ·intro j x va n ks vs hx hxd
  rcases aN hx with ⟨_,hx'⟩ | ⟨_,h3⟩
  ·cases hx'
  ·exact m.lins j x va n ks vs h3 hxd
 ·intro b x hr
  obtain ⟨h1,h2,h3⟩:=m.frn b x hr
  refine ⟨h1,fun k hk1=>?_,h3⟩
  rcases hown b k hk1 with h4 | ⟨_,h4,h5⟩
  ·exact h2 k h4
  ·obtain ⟨b2,_,_,h6,_,_,_,_,_,h7,_⟩:=hblk h4
   rw [h5] at h6
   cases h6
   have hr:G.φ b=some x:=hr
   rw [h7.2] at hr
   cases hr
 ·refine m.obs.keep rfl (SgLe.refl _) (fun j x hx ho=>?_) (fun _=>.inl rfl) fun j e hx=>?_
  ·rcases aN hx with ⟨rfl,hx'⟩ | ⟨hj,h3⟩
   ·cases hx'
    rcases ho with ho | ho <;> cases ho
   ·exact h3
  ·rcases aN hx with ⟨rfl,_⟩ | ⟨_,h3⟩
   ·exact .inr (.inr hcl)
   ·exact .inl h3
 ·intro j x va n ks vs hx
  rcases aN hx with ⟨_,hx'⟩ | ⟨_,h3⟩
  ·cases hx'
  ·exact m.mnp j x va n ks vs h3
theorem iY (l:List D):names 0 0 l=false:=by
 induction l with
 | nil=>rfl
 | cons d l ih=>simp only [names,bO,cond_false,ih]
theorem Mem.foreign (m:Mem F B np w0 ext σ0 G hp tk w) {φ':Nat→Option Fo} {β':Nat→Nat} {hp':Nat→Option (Bool×List D)} {lo hi:Nat}
  (hos:w'.os=w.os) (htp:w'.tape=w.tape) (hout:w'.output=w.output) (hsz:w.heap.size≤w'.heap.size)
  (hoth:∀ k,k < w.heap.size→G.φ k=none→w'.heap[k]? = w.heap[k]?)
  (hβ:∀ j,¬(lo≤j∧j < hi)→β' j=G.β j) (hcl:∀ id f cs,hp id=some (f,cs)→names lo hi cs=false)
  (hhp:∀ id f cs,hp' id=some (f,cs)→(hp id=some (f,cs)∧β' id=G.β id)∨(f=false∧(bS cs=true∨eF cs=true))∨(f=true∧cs=[]))
  (hfrn:∀ b x,φ' b=some x→(B≤b∨∃ o,σ0.φ b=some ⟨x.id,x.q,o⟩)∧(∀ k,bT G hp tk b k→∃ q,k=.inl q∧∀ cs,hp' q=some (false,cs)→bS cs=true)∧(∀ o,G.σ b o=none)∧G.γ b=none∧w'.heap[b]? = some x.ob)
  (hmono:∀ b x,G.φ b=some x→∃ o,φ' b=some ⟨x.id,x.q,o⟩)
  (hobs:ObS np σ0.φ { G with φ:=φ',β:=β' } hp') :
  Mem F B np w0 ext σ0 { G with φ:=φ',β:=β' } hp' tk w':=by
 have hk:Keeps lo hi G { G with φ:=φ',β:=β' } tk tk :=
  ⟨SgLe.refl _,hβ,fun _ z m _ e=>⟨z,m,e,Nat.le_refl _,fun _=>rfl⟩,fun _ _ _ _ e=>e,hmono⟩
 have hown:∀ b k,bT { G with φ:=φ',β:=β' } hp' tk b k→bT G hp tk b k∧∀ q,k=.inl q→∃ cs,hp' q=some (false,cs)∧bS cs=false:=by
  intro b k hk'
  cases k with
  | inl j =>
   obtain ⟨x,h1,h2⟩:=hk'
   rcases hhp j false x h1 with ⟨h3,h4⟩ | ⟨_,h3⟩ | ⟨h3,_⟩
   ·refine ⟨⟨x,h3,h2.congr h4.symm fun _=>rfl⟩,fun q hq=>⟨x,by cases hq; exact h1,?_⟩⟩
    rcases h2 with ⟨h5,_⟩ | ⟨_,_,_,_,_,rfl,_⟩
    ·exact bL h5
    ·rfl
   ·exfalso
    rcases h2 with ⟨h5,_⟩ | ⟨_,_,_,_,_,rfl,_⟩
    ·rcases h3 with h3 | h3
     ·rw [bL h5] at h3; cases h3
     ·rw [hT h5] at h3; cases h3
    ·rcases h3 with h3 | h3 <;> cases h3
   ·cases h3
  | inr i=>exact ⟨hk',fun q hq=>by cases hq⟩
 have hnφ:∀ b k,bT G hp tk b k→G.φ b=none:=by
  intro b k hk'
  cases hh:G.φ b with
  | none=>rfl
  | some x=>exact absurd hk' ((m.frn b x hh).2.1 k)
 have hat:∀ b k,bT G hp tk b k→w'.heap[b]? = w.heap[b]?:=fun b k h=>hoth b (m.own_lt h) (hnφ b k h)
 refine ⟨?_,m.old,hos.trans m.os,htp.trans m.tape,hout.trans m.output,Nat.le_trans m.base hsz,?_,?_,?_,?_,?_,?_,?_,?_,?_,?_,?_,hobs,?_⟩
 ·intro b o v hv
  obtain ⟨h1,c1,e',fz,h2,h3⟩:=m.stab b o v hv
  refine ⟨h1,c1,e',fz,?_,h3⟩
  rw [hoth b (m.lt hv)]
  ·exact h2
  ·cases hh:G.φ b with
   | none=>rfl
   | some x =>
    have:=(m.frn b x hh).2.2.1 o
    rw [show G.σ b o=some v from hv] at this
    cases this
 ·intro b hB he hf
  rw [hoth b (Nat.lt_of_lt_of_le hB m.base)]
  ·exact m.keep b hB he hf
  ·cases hh:G.φ b with
   | none=>rfl
   | some x =>
    rcases (m.frn b x hh).1 with h | ⟨o,h⟩
    ·omega
    ·rw [hf] at h
     cases h
 ·intro j x hx hnx
  rcases hhp j false x hx with ⟨h3,h4⟩ | ⟨_,h3⟩ | ⟨h3,_⟩
  ·obtain ⟨o',h1,h5,h6⟩:=m.vars j x h3 hnx
   refine ⟨o',?_,h5.imp fun q v hq hr=>hr.keep hk (dQ (hcl j _ x h3) hq),?_⟩
   ·simp only
    rw [h4,hat _ (.inl j) ⟨x,h3,.inl ⟨hnx,rfl⟩⟩]
    exact h1
   ·simp only
    rw [h4]
    exact h6
  ·rcases h3 with h3 | h3
   ·rw [bL hnx] at h3; cases h3
   ·rw [hT hnx] at h3; cases h3
  ·cases h3
 ·intro j fw z n g hx
  rcases hhp j false _ hx with ⟨h3,h4⟩ | ⟨_,h3⟩ | ⟨h3,_⟩
  ·obtain ⟨a,c,h1,h2⟩:=m.rows j fw z n g h3
   refine ⟨a,c,h1,fun b hb hc=>?_⟩
   obtain ⟨h5,o',h6,h7⟩:=h2 b hb hc
   refine ⟨h5,o',?_,h7⟩
   rw [hat _ (.inl j) ⟨_,h3,.inr ⟨fw,z,n,g,c,rfl,by rw [h1.at_,hb],hc⟩⟩]
   exact h6
  ·rcases h3 with h3 | h3 <;> cases h3
  ·cases h3
 ·intro j x hx i hi'
  rcases hhp j true x hx with ⟨h3,h4⟩ | ⟨h3,_⟩ | ⟨_,rfl⟩
  ·simp only
   rw [h4]
   exact m.froz j x h3 i hi'
  ·cases h3
  ·simp at hi'
 ·intro i z n hi'
  obtain ⟨a,c,h1,h2,h3⟩:=m.toks i z n hi'
  refine ⟨a,c,h1,h2,fun hn=>?_⟩
  obtain ⟨b,cur,e',h4,h5,h6,h7⟩:=h3 hn
  refine ⟨b,cur,e',h4,?_,h6,h7⟩
  rw [hat b (.inr i) ⟨z,n,c,hi',by rw [h1,h4],hn⟩]
  exact h5
 ·exact fun b k k' hk1 hk2=>m.own1 b k k' (hown b k hk1).1 (hown b k' hk2).1
 ·exact fun b k hk1=>m.own2 b k (hown b k hk1).1
 ·intro b r hb2
  obtain ⟨h1,h2,h3,cur,e',h4,h5⟩:=m.resv b r hb2
  refine ⟨h1,fun k hk1=>h2 k (hown b k hk1).1,h3,cur,e',?_,h5⟩
  rw [hoth b (Array.getElem?_eq_some_iff.1 h4).1]
  ·exact h4
  ·cases hh:G.φ b with
   | none=>rfl
   | some x =>
    have:=(m.frn b x hh).2.2.2.1
    rw [show G.γ b=some r from hb2] at this
    cases this
 ·intro j x va n ks vs hx hxd
  rcases hhp j false _ hx with ⟨h3,h4⟩ | ⟨_,h3⟩ | ⟨h3,_⟩
  ·obtain ⟨h1,es,ck,h2,h5⟩:=m.lins j x va n ks vs h3 hxd
   refine ⟨h1,es,ck,?_,h5⟩
   simp only
   rw [h4,hat _ (.inl j) ⟨_,h3,.inl ⟨by cases x <;> rfl,rfl⟩⟩]
   exact h2
  ·rcases h3 with h3 | h3 <;> (cases x <;> cases h3)
  ·cases h3
 ·intro b x hx
  obtain ⟨h1,h2,h3,h4,h5⟩:=hfrn b x hx
  refine ⟨h1,fun k hk1=>?_,h3,h4,h5⟩
  obtain ⟨h6,h7⟩:=hown b k hk1
  obtain ⟨q,rfl,h8⟩:=h2 k h6
  obtain ⟨cs,h9,h10⟩:=h7 q rfl
  rw [h8 cs h9] at h10
  cases h10
 ·intro b x hx
  obtain ⟨o,h1⟩:=m.omono b x hx
  exact hmono b ⟨x.id,x.q,o⟩ h1
 ·intro j x va n ks vs hx
  rcases hhp j false _ hx with ⟨h3,_⟩ | ⟨_,h3⟩ | ⟨h3,_⟩
  ·exact m.mnp j x va n ks vs h3
  ·rcases h3 with h3 | h3 <;> (cases x <;> cases h3)
  ·cases h3
end
structure Rel (F:Nat→FuncId) (B np:Nat) (w0:World) (ext:List Nat) (σ0:Og) (G:Gh) (s:St) (a:Act) (w:World):Prop where
 defers:a.defers=[]
 size:a.tmps.size=s.fr.length
 slots:∀ i,i < s.fr.length→Rd F G s.tk (a.tmps.getD i undef) (nth s.fr i .dead)
 mem:Mem F B np w0 ext σ0 G s.hp s.tk w
 par:∀ id,id < np→G.β id=ext.getD id 0
structure Clean (lo hi:Nat) (s:St):Prop where
 fr:∀ i,i < s.fr.length→(nth s.fr i .dead).names lo hi=false
 hp:∀ id f cs,s.hp id=some (f,cs)→¬(lo≤id∧id < hi)∧names lo hi cs=false
 tk:∀ i e,s.tk i=some e→¬(lo≤i∧i < hi)
section
variable {F:Nat→FuncId} {B np:Nat} {w0 w w':World} {ext:List Nat} {σ0:Og} {G G':Gh} {s:St} {a:Act} {hp:Nat→Option (Bool×List D)} {tk tk':Nat→Option (Nat×Nat)}
theorem yC {v:Value} {d:D} (h:iD v=some d):Rc F G tk v d:=by
 unfold iD at h
 split at h <;> cases h
 ·exact .pure (.bool _) trivial
 ·exact .pure (.int _ _) trivial
 ·exact .pure (.str _) trivial
 ·exact .pure .nilp trivial
 ·exact .pure (.slice none 0 0 .full 0 d8 0 0 (fun _ _=>undef) (Nat.le_refl _) (fun h=>absurd rfl h) (fun i hi=>by omega) (fun i j hi=>by omega) (fun i j hi=>by omega)) ⟨none,rfl⟩
 ·exact .pure .nilm trivial
theorem dJ:∀ {l:List Value} {ds:List D},cW l=some ds→l.length=ds.length∧∀ j,j < ds.length→Rc F G tk (l.getD j undef) (nth ds j .dead)
 | [],ds,h=>by cases h; exact ⟨rfl,fun j hj=>by simp at hj⟩
 | v::l,ds,h=>by
  simp only [cW] at h
  split at h
  ·rename_i d ds' h1 h2
   cases h
   obtain ⟨h3,h4⟩:=dJ h2
   refine ⟨by simp [h3],fun j hj=>?_⟩
   cases j with
   | zero=>exact yC h1
   | succ j=>exact h4 j (by simpa using hj)
  ·cases h
theorem bI (cs:Array Value) (j:Nat):cs.getD j undef=cs.toList.getD j undef:=by
 simp [Array.getD_eq_getD_getElem?]
theorem vA {G:Gh} {tk:Nat→Option (Nat×Nat)} {v:Value} {d:D} (h:Rc F G tk v d) (z:Nat):Rc F G tk v (aBI z d):=by
 unfold aBI
 split
 ·cases h with | pure h h'=>cases h with | slice a n c t sz g b o val h1 h2 h3 h4 h5=>exact .pure (.slice a 0 c .full z _ b o val h1 h2 (fun i hi=>by omega) (fun i j hi=>by omega) (fun i j hi=>by omega)) h'
 ·exact h
theorem cP:∀ (l:List D) (zs:List Nat),(fG l zs).length=l.length
 | [],_=>rfl
 | _::l,[]=>by simp [fG,cP l []]
 | _::l,_::zs=>by simp [fG,cP l zs]
theorem oJ:∀ (l:List D) (zs:List Nat) (j:Nat),∃ z,nth (fG l zs) j .dead=aBI z (nth l j .dead)
 | [],_,_=>⟨0,rfl⟩
 | _::_,[],0=>⟨0,rfl⟩
 | _::_,z::_,0=>⟨z,rfl⟩
 | _::l,[],j+1=>oJ l [] j
 | _::l,_::zs,j+1=>oJ l zs j
theorem mX {G:Gh} {tk:Nat→Option (Nat×Nat)} {vs:List Value} {l:List D} (h:∀ j,j < l.length→Rc F G tk (vs.getD j undef) (nth l j .dead)) (zs:List Nat):∀ j,j < (fG l zs).length→Rc F G tk (vs.getD j undef) (nth (fG l zs) j .dead):=fun j hj=>by
 rw [cP] at hj
 obtain ⟨z,hz⟩:=oJ l zs j
 rw [hz]
 exact vA (h j hj) z
theorem aDH {v:Value} {d:D} (h:ofValue v=some d):Rd F G tk v d:=by
 unfold ofValue at h
 split at h
 ·rename_i cs
  cases hc:cW cs.toList with
  | none=>rw [hc] at h; cases h
  | some ds =>
   rw [hc] at h
   cases h
   obtain ⟨h1,h2⟩:=dJ (F:=F) (G:=G) (tk:=tk) hc
   refine .any (.agg cs ds (by simpa using h1) fun j hj=>?_)
   rw [bI]
   exact h2 j hj
 ·exact .any (.cell (yC h))
theorem a8 {ft:FT} (hft:∀ f j,ag ft f=some j→F j=f) (r:Rel F B np w0 ext σ0 G s a w) {x:Operand} {ax:AX} (h:trX ft x=some ax) :
  Rd F G s.tk (a.eval x) (ax.ev s.fr):=by
 cases x with
 | tmp t =>
  cases h
  simp only [AX.ev,Act.eval]
  by_cases ht:t < s.fr.length
  ·exact r.slots t ht
  ·rw [iE s.fr D.dead (Nat.le_of_not_lt ht)]
   exact Rd.dead _
 | const v =>
  simp only [trX,Option.map_eq_some_iff] at h
  obtain ⟨d,h1,rfl⟩:=h
  exact aDH h1
 | global g=>cases h
 | func f =>
  simp only [trX,Option.map_eq_some_iff] at h
  obtain ⟨j,h1,rfl⟩:=h
  have:=hft f j h1
  subst this
  exact .any (.cell (.fn j #[] [] rfl fun j hj=>by simp at hj))
theorem aDB {ft:FT} (hft:∀ f j,ag ft f=some j→F j=f) (r:Rel F B np w0 ext σ0 G s a w):∀ {l:List Operand} {ays:List AX},kZ ft l=some ays →
  l.length=ays.length∧(evs s.fr ays).length=ays.length∧∀ j,j < ays.length→Rd F G s.tk ((l.map a.eval).getD j undef) (nth (evs s.fr ays) j .dead)
 | [],ays,h=>by cases h; exact ⟨rfl,rfl,fun j hj=>by simp at hj⟩
 | x::l,ays,h=>by
  simp only [kZ] at h
  split at h
  ·rename_i ax as' h1 h2
   cases h
   obtain ⟨h3,h5,h4⟩:=aDB hft r h2
   refine ⟨by simp [h3],by simp [evs,h5],fun j hj=>?_⟩
   cases j with
   | zero=>exact a8 hft r h1
   | succ j=>exact h4 j (by simpa using hj)
  ·cases h
theorem Rel.put (r:Rel F B np w0 ext σ0 G s a w) {lo hi:Nat} (hnp:np≤lo) (hcl:Clean lo hi s) (k:Keeps lo hi G G' s.tk tk') (m:Mem F B np w0 ext σ0 G' hp tk' w') {v:Value} {d:D}
  (hv:Rd F G' tk' v d) (dst:Option Nat):Rel F B np w0 ext σ0 G' ⟨fI dst d s.fr,hp,tk'⟩ (a.put dst v) w':=by
 have par:∀ id,id < np→G'.β id=ext.getD id 0:=fun id hid=>by rw [k.β id (by omega)]; exact r.par id hid
 cases dst with
 | none=>exact ⟨r.defers,r.size,fun i hi=>(r.slots i hi).keep k (hcl.fr i hi),m,par⟩
 | some t =>
  refine ⟨r.defers,?_,fun i hi=>?_,m,par⟩
  ·simp only [Act.put,fI,cD,Array.size_setIfInBounds]
   exact r.size
  ·simp only [fI,cD] at hi
   simp only [Act.put,fI]
   rw [fN]
   by_cases ht:t=i
   ·subst ht
    rw [if_pos ⟨rfl,hi⟩]
    have:(a.tmps.setIfInBounds t v).getD t undef=v:=by
     simp [Array.getD_eq_getD_getElem?,r.size,hi]
    rw [this]
    exact hv
   ·rw [if_neg (fun h=>ht h.1)]
    have:(a.tmps.setIfInBounds t v).getD i undef=a.tmps.getD i undef:=by
     simp [Array.getD_eq_getD_getElem?,Array.getElem?_setIfInBounds_ne ht]
    rw [this]
    exact (r.slots i hi).keep k (hcl.fr i hi)
theorem Rel.kill (r:Rel F B np w0 ext σ0 G s a w) (t:Nat):Rel F B np w0 ext σ0 G ⟨upd s.fr t .dead,s.hp,s.tk⟩ a w:=by
 refine ⟨r.defers,by simp only [cD]; exact r.size,fun i hi=>?_,r.mem,r.par⟩
 simp only [cD] at hi
 simp only
 rw [fN]
 split
 ·exact Rd.dead _
 ·exact r.slots i hi
end
def Out.holds (o:Out) (v:D) (u:Upd):Prop:=o=.ok v u∨(∃ p,p∧o=.ask p v u)∨o=.chk true v u∨(∃ v' u',o=.alt true v u v' u')∨∃ v' u',o=.alt false v' u' v u
def Does (F:Nat→FuncId) (B np:Nat) (w0:World) (ext:List Nat) (σ0:Og) (G:Gh) (hp:Nat→Option (Bool×List D)) (tk:Nat→Option (Nat×Nat)) (run:Result Next) (id n:Nat) (v:D) (u:Upd):Prop :=
 ∃ w' r v' G',run=.ok r w'∧(r=.value v'∨r=.skip∧v'=undef)∧Mem F B np w0 ext σ0 G' (bX hp u.h) (cF tk u.t) w'∧Rd F G' (cF tk u.t) v' v∧Keeps id (id+n) G G' tk (cF tk u.t)
section
variable {F:Nat→FuncId} {B np:Nat} {w0 w w':World} {ext:List Nat} {σ0:Og} {G G':Gh} {s:St} {a:Act} {hp:Nat→Option (Bool×List D)} {tk tk':Nat→Option (Nat×Nat)}
theorem Does.val (m:Mem F B np w0 ext σ0 G hp tk w) {v:Value} {d:D} (h:Rd F G tk v d) {run:Result Next} (hr:run=.ok (.value v) w) (id n:Nat):Does F B np w0 ext σ0 G hp tk run id n d Upd.none :=
 ⟨w,.value v,v,G,hr,.inl rfl,m,h,Keeps.refl _ _ _ _⟩
theorem Rd.int_inv {v:Value} {k:IntKind} {n:Int} (h:Rd F G tk v (.int k n)):v=.int k n:=by
 cases h with | any h=>cases h with | cell h=>cases h with | pure h _=>cases h; rfl
theorem Rd.bool_inv {v:Value} {b:Bool} (h:Rd F G tk v (.bool b)):v=.bool b:=by
 cases h with | any h=>cases h with | cell h=>cases h with | pure h _=>cases h; rfl
theorem Rd.str_inv {v:Value} {b:ByteArray} (h:Rd F G tk v (.str b)):v=.string b:=by
 cases h with | any h=>cases h with | cell h=>cases h with | pure h _=>cases h; rfl
theorem Rd.ptr_inv {v:Value} {i o:Nat} (h:Rd F G tk v (.ptr i o)):v=.pointer (some ⟨G.β i,o,none⟩):=by
 cases h with | any h=>cases h with | cell h=>cases h with | pure h _=>cases h | ptr _ _=>rfl
theorem Rd.eptr_inv {v:Value} {l:List D} (h:Rd F G tk v (.eptr l)):∃ b o,v=.pointer (some ⟨b,o,none⟩)∧EAt G.σ b o l:=by
 cases h with | any h=>cases h with | cell h=>cases h with | pure h _=>cases h | eptr b o _ h=>exact ⟨b,o,rfl,h⟩
theorem Rd.agg_inv {v:Value} {l:List D} (h:Rd F G tk v (.agg l)):∃ cs,v=.agg cs∧cs.size=l.length∧∀ j,j < l.length→Rc F G tk (cs.getD j undef) (nth l j .dead):=by
 cases h with
 | any h=>cases h with
  | cell h=>cases h with | pure h _=>cases h
  | agg cs _ h1 h2=>exact ⟨cs,rfl,h1,h2⟩
theorem Rd.tup_inv {v:Value} {l:List D} (h:Rd F G tk v (.tup l)):∃ vs,v=.tuple vs∧vs.size=l.length∧∀ j,j < l.length→Rt F G tk (vs.getD j undef) (nth l j .dead):=by
 cases h with
 | any h=>cases h with
  | cell h=>cases h with | pure h _=>cases h
 | tup vs _ h1 h2=>exact ⟨vs,rfl,h1,h2⟩
theorem Rd.slice_inv {v:Value} {t:Tag} {z n:Nat} {g:Nat→List D} (h:Rd F G tk v (.slice t z n g)):Rp G.σ v (.slice t z n g)∧TagR G tk v (.slice t z n g):=by
 cases h with | any h=>cases h with | cell h=>cases h with | pure h h'=>exact ⟨h,h'⟩
theorem Rd.msl_inv {v:Value} {i z n:Nat} (h:Rd F G tk v (.msl i z n)):∃ a c,v=.slice a n c∧G.η i n=some (.slice a n c)∧n≤c∧(n≠0→∃ b,a=some ⟨b,0,none⟩):=by
 cases h with
 | any h=>cases h with | cell h=>cases h with | pure h _=>cases h
 | msl _ _ _ a c h1 h2 h3=>exact ⟨a,c,rfl,h1,h2,h3⟩
theorem Rd.rptr_inv {v:Value} {id z n i off:Nat} (h:Rd F G tk v (.rptr id z n i off)):∃ b c,v=.pointer (some ⟨b,i * z+off,none⟩)∧G.η id n=some (.slice (some ⟨b,0,none⟩) n c)∧i < n:=by
 cases h with
 | any h=>cases h with | cell h=>cases h with | pure h _=>cases h
 | rptr _ _ _ _ _ b c h1 h2=>exact ⟨b,c,rfl,h1,h2⟩
theorem Rd.nilm_inv {v:Value} (h:Rd F G tk v .nilm):v=.map none:=by
 cases h with | any h=>cases h with | cell h=>cases h with | pure h _=>cases h; rfl
theorem Rd.oref_inv {v:Value} {i j:Nat} {b:Bool} (h:Rd F G tk v (.oref i j b)):RefO G i j b v:=by
 cases h with
 | any h=>cases h with | cell h=>cases h with | pure h _=>cases h
 | oref _ _ _ _ h=>exact h
theorem Rd.oagg_inv {v:Value} {id off m:Nat} {nl:Nat→Bool} (h:Rd F G tk v (.oagg id off m nl)):∃ cs,v=.agg cs∧cs.size=m∧∀ i,i < m→RefO G id (off+i) (nl (off+i)) (cs.getD i undef):=by
 cases h with
 | any h=>cases h with | cell h=>cases h with | pure h _=>cases h
 | oagg _ _ _ _ cs h1 h2=>exact ⟨cs,rfl,h1,h2⟩
theorem Rd.osl_inv {v:Value} {id off n:Nat} (h:Rd F G tk v (.osl id off n)):∃ a c,v=.slice a n c∧n≤c∧(n≠0→a=some ⟨G.β id,off,none⟩):=by
 cases h with
 | any h=>cases h with | cell h=>cases h with | pure h _=>cases h
 | osl _ _ _ c a h h'=>exact ⟨a,c,rfl,h,h'⟩
theorem Rd.kseq_inv {v:Value} {g id j:Nat} {b:Bool} (h:Rd F G tk v (.kseq g id j b)):∃ bx mv,v=.func (.func (F g)) #[] #[.pointer (some ⟨bx,0,none⟩)]∧RefO G id j b mv∧G.σ bx 0=some mv:=by
 cases h with
 | any h=>cases h with | cell h=>cases h with | pure h _=>cases h
 | kseq _ _ _ _ bx mv h1 h2=>exact ⟨bx,mv,rfl,h1,h2⟩
theorem Rd.cells {v:Value} {d:D} (h:Rd F G tk v d) (hs:aI d.cells=true):v.cells.size=d.cells.length∧∀ j,j < d.cells.length→Rc F G tk (v.cells.getD j undef) (nth d.cells j .dead):=by
 cases h with
 | any h=>cases h with
  | cell h =>
   have hd:d≠.dead:=by intro e; subst e; simp [D.cells,aI] at hs
   have h1:=h.oneCell hd (by intro va n ks vs e; subst e; simp [D.cells,aI] at hs)
   have e1:v.cells=#[v]:=by cases v <;> first | rfl | simp [Value.oneCell'] at h1
   have e2:d.cells=[d]:=by cases h <;> first | rfl | (rename_i h3 _; cases h3 <;> rfl)
   rw [e1,e2]
   refine ⟨rfl,fun j hj=>?_⟩
   have:j=0:=by simpa using hj
   subst this
   exact h
  | agg cs l h1 h2=>exact ⟨h1,h2⟩
 | tup vs l h1 h2=>simp [D.cells,aI] at hs
 | mref id=>simp [D.cells,aI] at hs
 | msl id z n a c _ _ _=>simp [D.cells,aI] at hs
 | rptr id z n i off b c _ _=>simp [D.cells,aI] at hs
 | oref id j b v _=>simp [D.cells,aI] at hs
 | oagg id off m nl cs _ _=>simp [D.cells,aI] at hs
 | osl id off n c a _ _=>simp [D.cells,aI] at hs
 | kseq _ _ _ _ _ _ _ _=>simp [D.cells,aI] at hs
end
section
variable {P:Program} {F:Nat→FuncId} {B np:Nat} {w0 w w':World} {ext:List Nat} {σ0:Og} {G G':Gh} {hp:Nat→Option (Bool×List D)} {tk tk':Nat→Option (Nat×Nat)}
theorem aF {v0 v:D} {u:Upd} (h:(Out.val v0).holds v u):v=v0∧u=Upd.none:=by
 rcases h with h | ⟨p,_,h⟩ | h | ⟨_,_,h⟩ | ⟨_,_,h⟩ <;> cases h
 exact ⟨rfl,rfl⟩
theorem aV {v0 v:D} {u0 u:Upd} (h:(Out.ok v0 u0).holds v u):v=v0∧u=u0:=by
 rcases h with h | ⟨p,_,h⟩ | h | ⟨_,_,h⟩ | ⟨_,_,h⟩ <;> cases h
 exact ⟨rfl,rfl⟩
theorem aS {p:Prop} {v0 v:D} {u0 u:Upd} (h:(Out.ask p v0 u0).holds v u):p∧v=v0∧u=u0:=by
 rcases h with h | ⟨p,hp,h⟩ | h | ⟨_,_,h⟩ | ⟨_,_,h⟩ <;> cases h
 exact ⟨hp,rfl,rfl⟩
theorem aK {b:Bool} {v0 v:D} {u0 u:Upd} (h:(Out.chk b v0 u0).holds v u):b=true∧v=v0∧u=u0:=by
 rcases h with h | ⟨p,hp,h⟩ | h | ⟨_,_,h⟩ | ⟨_,_,h⟩ <;> cases h
 exact ⟨rfl,rfl,rfl⟩
theorem bV {b:Bool} {v0 v v1:D} {u0 u u1:Upd} (h:(Out.alt b v0 u0 v1 u1).holds v u):(b=true∧v=v0∧u=u0)∨(b=false∧v=v1∧u=u1):=by
 rcases h with h | ⟨p,hp,h⟩ | h | ⟨_,_,h⟩ | ⟨_,_,h⟩ <;> cases h
 ·exact .inl ⟨rfl,rfl,rfl⟩
 ·exact .inr ⟨rfl,rfl,rfl⟩
theorem aC {v:D} {u:Upd} (h:Out.bad.holds v u):False:=by
 rcases h with h | ⟨p,hp,h⟩ | h | ⟨_,_,h⟩ | ⟨_,_,h⟩ <;> cases h
theorem l5 {p:Prop} {o:Out} {v:D} {u:Upd} (h:(aLM p o).holds v u):p∧o.holds v u:=by
 cases o with
 | ok v0 u0 =>
  obtain ⟨h1,rfl,rfl⟩:=aS h
  exact ⟨h1,.inl rfl⟩
 | _=>exact (aC h).elim
theorem bB {t:TypeId} {d:TypeDesc} (h:P.underlying t=some d) (w:World):(underlying t).run P w=.ok d w:=by
 simp [underlying,program,h,Sem.run]
theorem cI {t:TypeId} {n:Nat} (h:cA P t=some n) (w:World):(sizeOf t).run P w=.ok n w:=by
 simp only [cA,Option.map_eq_some_iff] at h
 obtain ⟨i,h1,h2⟩:=h
 simp [sizeOf,typeInfo,program,h1,h2,Sem.run]
theorem iO {t:TypeId} {g:Bool} (h:bY P t=some g) (w:World):(isAgg t).run P w=.ok g w:=by
 unfold bY at h
 split at h
 ·rename_i fs h1
  cases h
  simp [isAgg,bB h1]
 ·rename_i n e h1
  cases h
  simp [isAgg,bB h1]
 ·rename_i d h1 h2 h3
  cases h
  cases d <;> first | (simp [isAgg,bB h3]; done) | (exact absurd rfl (h1 _)) | (exact absurd rfl (h2 _ _))
 ·cases h
theorem cO (b o n:Nat):(⟨b,o,none⟩:Addr).add n=⟨b,o+n,none⟩:=by
 unfold Addr.add
 split
 ·subst_vars; rfl
 ·rfl
theorem vX (m:Mem F B np w0 ext σ0 G hp tk w) {x:Value} {d:D} (hx:Rd F G tk x d) (id n:Nat) {st:TypeId} {fs:Array Field} {f:Nat} {fl:Field} {k:Nat}
  (hu:P.underlying st=some (.struct fs)) (hf:fs[f]? = some fl) (hk:cA P fl.type=some k) (hk0:k≠0) {v:D} {u:Upd}
  (hh:(aR (.fieldAddr fl.offset) id hp tk [d]).holds v u) :
  Does F B np w0 ext σ0 G hp tk (((Instr.fieldAt st x f).run P w).andThen fun v w=>.ok (.value v) w) id n v u:=by
 cases d with
 | ptr i o =>
  obtain ⟨rfl,rfl⟩:=aF hh
  have:=hx.ptr_inv
  subst this
  refine Does.val m (.any (.cell (.ptr i (o+fl.offset)))) ?_ id n
  simp [Instr.fieldAt,bB hu,hf,Instr.sureAddr,fieldPlace,cI hk,hk0,cO]
 | eptr l =>
  obtain ⟨rfl,rfl⟩:=aF hh
  obtain ⟨b,o,rfl,h1⟩:=hx.eptr_inv
  refine Does.val m (.any (.cell (.eptr b (o+fl.offset) _ (h1.drop _)))) ?_ id n
  simp [Instr.fieldAt,bB hu,hf,Instr.sureAddr,fieldPlace,cI hk,hk0,cO]
 | rptr j z n' i o =>
  obtain ⟨rfl,rfl⟩:=aF hh
  obtain ⟨b,c,rfl,h1,h2⟩:=hx.rptr_inv
  refine Does.val m (.rptr j z n' i (o+fl.offset) b c h1 h2) ?_ id n
  simp [Instr.fieldAt,bB hu,hf,Instr.sureAddr,fieldPlace,cI hk,hk0,cO,Nat.add_assoc]
 | _=>exact (aC hh).elim
theorem eX {g:Bool} {n:Nat} {l:List D} {v:D} {u:Upd} (h:(cC g n l).holds v u):n≤l.length∧v=mkv g (l.take n)∧u=Upd.none:=by
 unfold cC at h
 cases hb:Nat.ble n l.length with
 | true =>
  rw [hb] at h
  obtain ⟨h1,h2⟩:=aF h
  exact ⟨Nat.le_of_ble_eq_true hb,h1,h2⟩
 | false=>rw [hb] at h; exact (aC h).elim
theorem aES {t:TypeId} {g:Bool} {n:Nat} (hg:bY P t=some g) (hn:cA P t=some n) (hgn:(g || n==1)=true) {cs:Array Value} {l:List D} {off:Nat} (hlen:cs.size=l.length)
  (hr:∀ j,j < l.length→Rc F G tk (cs.getD j undef) (nth l j .dead)) (ho:n≤(l.drop off).length) (w:World) :
  ∃ v,(part t cs off).run P w=.ok v w∧Rd F G tk v (mkv g ((l.drop off).take n)):=by
 rw [List.length_drop] at ho
 cases g with
 | true =>
  refine ⟨.agg (cs.extract off (off+n)),by simp [part,iO hg,cI hn],?_⟩
  refine .any (.agg _ _ ?_ fun j hj=>?_)
  ·simp only [Array.size_extract,List.length_take,List.length_drop]; omega
  ·simp only [List.length_take,List.length_drop] at hj
   rw [kK _ _ _ (by omega),hO]
   have:(cs.extract off (off+n)).getD j undef=cs.getD (off+j) undef:=by
    simp only [Array.getD_eq_getD_getElem?,Array.getElem?_extract]
    rw [if_pos (by omega)]
   rw [this]
   exact hr _ (by omega)
 | false =>
  have h1:n=1:=by simpa using hgn
  subst h1
  have ho':off < cs.size:=by omega
  refine ⟨cs.getD off undef,?_,?_⟩
  ·simp [part,iO hg,ho',Array.getD_eq_getD_getElem?]
  ·have:mkv false ((l.drop off).take 1)=nth l off .dead:=by
    simp only [mkv,cond_false]
    rw [kK _ _ _ (by omega),hO]
    rfl
   rw [this]
   exact .any (.cell (hr off (by omega)))
theorem aC9 (m:Mem F B np w0 ext σ0 G hp tk w) {x:Value} {d:D} (hx:Rd F G tk x d) (id n:Nat) {st:TypeId} {fs:Array Field} {f:Nat} {fl:Field} {k:Nat} {g:Bool}
  (hu:P.underlying st=some (.struct fs)) (hf:fs[f]? = some fl) (hg:bY P fl.type=some g) (hk:cA P fl.type=some k) (hgk:(g || k==1)=true) {v:D} {u:Upd}
  (hh:(aR (.field g fl.offset k) id hp tk [d]).holds v u) :
  Does F B np w0 ext σ0 G hp tk (((Instr.field st x f).run P w).andThen fun v w=>.ok (.value v) w) id n v u:=by
 cases d with
 | agg l =>
  obtain ⟨h1,rfl,rfl⟩:=eX hh
  obtain ⟨cs,rfl,h2,h3⟩:=hx.agg_inv
  obtain ⟨v',h4,h5⟩:=aES (w:=w) hg hk hgk h2 h3 h1
  refine Does.val m h5 ?_ id n
  simp [Instr.field,bB hu,hf,asAgg,h4]
 | _=>exact (aC hh).elim
theorem Rp.elem {σ:Sg} {x:Value} {n:Nat} {t:Tag} {z:Nat} {g:Nat→List D} (h:Rp σ x (.slice t z n g)):∃ a c,x=.slice a n c∧n≤c∧(∀ i,i < n→(g i).length=z) ∧
  ∀ i,i < n→∃ b o,a=some ⟨b,o,none⟩∧EAt σ b (o+i * z) (g i):=by
 cases h with
 | slice a _ c _ _ _ b o val h1 h2 h3 h4 h5 =>
  refine ⟨a,c,rfl,h1,h3,fun i hi=>⟨b,o,h2 (by omega),fun j hj=>?_⟩⟩
  have:=h3 i hi
  exact ⟨val i j,h4 i j hi (by omega),h5 i j hi (by omega)⟩
theorem dV {a b:Bool} (h:(a&&b)=true):a=true∧b=true:=by cases a <;> cases b <;> simp_all
theorem mW (m:Mem F B np w0 ext σ0 G hp tk w) {x y:Value} {d e:D} (hx:Rd F G tk x d) (hy:Rd F G tk y e) (id n:Nat) {t el:TypeId} {k:Nat}
  (hu:P.underlying t=some (.slice el)) (hk:cA P el=some k) {v:D} {u:Upd} (hh:(aR (.indexAddr k none) id hp tk [d,e]).holds v u) :
  Does F B np w0 ext σ0 G hp tk (((Instr.indexAt t x y).run P w).andThen fun v w=>.ok (.value v) w) id n v u:=by
 cases d with
 | slice tg z l g =>
  cases e with
  | int kd i =>
   simp only [aR] at hh
   cases hz:Nat.beq z k with
   | false=>rw [hz] at hh; exact (aC hh).elim
   | true =>
    rw [hz] at hh
    obtain ⟨h1,rfl,rfl⟩:=aK hh
    obtain ⟨h2,h3⟩:=dV h1
    have hzk:=Nat.eq_of_beq_eq_true hz
    subst hzk
    simp only [decide_eq_true_eq] at h2 h3
    have:=hy.int_inv
    subst this
    obtain ⟨a,c,rfl,_,_,h4⟩:=hx.slice_inv.1.elem
    obtain ⟨b,o,rfl,h5⟩:=h4 i.toNat (by omega)
    refine Does.val m (.any (.cell (.eptr b (o+i.toNat * z) _ h5))) ?_ id n
    simp [Instr.indexAt,asIntOf,bB hu,h2,h3,cI hk,cO]
  | _=>exact (aC hh).elim
 | msl j z l =>
  cases e with
  | int kd i =>
   simp only [aR] at hh
   cases hz:Nat.beq z k with
   | false=>rw [hz] at hh; exact (aC hh).elim
   | true =>
    rw [hz] at hh
    obtain ⟨h1,rfl,rfl⟩:=aK hh
    obtain ⟨h2,h3⟩:=dV h1
    have hzk:=Nat.eq_of_beq_eq_true hz
    subst hzk
    simp only [decide_eq_true_eq] at h2 h3
    have:=hy.int_inv
    subst this
    obtain ⟨a,c,rfl,h4,_,h5⟩:=hx.msl_inv
    obtain ⟨b,rfl⟩:=h5 (by omega)
    refine Does.val m (.rptr j z l i.toNat 0 b c h4 (by omega)) ?_ id n
    simp [Instr.indexAt,asIntOf,bB hu,h2,h3,cI hk,cO]
  | _=>exact (aC hh).elim
 | osl j off l =>
  cases e with
  | int kd i =>
   simp only [aR,jN] at hh
   cases hz:Nat.beq k 1 with
   | false=>rw [hz] at hh; exact (aC hh).elim
   | true =>
    rw [hz] at hh
    obtain ⟨h1,rfl,rfl⟩:=aK hh
    obtain ⟨h2,h3⟩:=dV h1
    have hzk:=Nat.eq_of_beq_eq_true hz
    subst hzk
    simp only [decide_eq_true_eq] at h2 h3
    have:=hy.int_inv
    subst this
    obtain ⟨a,c,rfl,_,h4⟩:=hx.osl_inv
    obtain rfl:=h4 (by omega)
    refine Does.val m (.any (.cell (.ptr j (off+i.toNat)))) ?_ id n
    simp [Instr.indexAt,asIntOf,bB hu,h2,h3,cI hk,cO]
  | _=>exact (aC hh).elim
 | _=>cases e <;> exact (aC hh).elim
theorem pI (m:Mem F B np w0 ext σ0 G hp tk w) {x y:Value} {d e:D} (hx:Rd F G tk x d) (hy:Rd F G tk y e) (id n:Nat) {t el:TypeId} {k len:Nat}
  (hu:P.underlying t=some (.array len el)) (hk:cA P el=some k) {v:D} {u:Upd} (hh:(aR (.indexAddr k (some len)) id hp tk [d,e]).holds v u) :
  Does F B np w0 ext σ0 G hp tk (((Instr.indexAt t x y).run P w).andThen fun v w=>.ok (.value v) w) id n v u:=by
 cases d with
 | ptr j off =>
  cases e with
  | int kd i =>
   obtain ⟨h1,rfl,rfl⟩:=aK hh
   obtain ⟨h2,h3⟩:=dV h1
   simp only [decide_eq_true_eq] at h2 h3
   have:=hy.int_inv
   subst this
   have:=hx.ptr_inv
   subst this
   refine Does.val m (.any (.cell (.ptr j (off+i.toNat * k)))) ?_ id n
   simp [Instr.indexAt,asIntOf,bB hu,h2,h3,cI hk,cO,Instr.sureAddr]
  | _=>exact (aC hh).elim
 | eptr l =>
  cases e with
  | int kd i =>
   obtain ⟨h1,rfl,rfl⟩:=aK hh
   obtain ⟨h2,h3⟩:=dV h1
   simp only [decide_eq_true_eq] at h2 h3
   have:=hy.int_inv
   subst this
   obtain ⟨b,o,rfl,h4⟩:=hx.eptr_inv
   refine Does.val m (.any (.cell (.eptr b (o+i.toNat * k) _ (h4.drop _)))) ?_ id n
   simp [Instr.indexAt,asIntOf,bB hu,h2,h3,cI hk,cO,Instr.sureAddr]
  | _=>exact (aC hh).elim
 | _=>cases e <;> exact (aC hh).elim
theorem xA (m:Mem F B np w0 ext σ0 G hp tk w) {x y:Value} {d e:D} (hx:Rd F G tk x d) (hy:Rd F G tk y e) (id n:Nat) {t:TypeId}
  (hu:P.underlying t=some .string) {v:D} {u:Upd} (hh:(aR .indexStr id hp tk [d,e]).holds v u) :
  Does F B np w0 ext σ0 G hp tk (((Instr.index t x y).run P w).andThen fun v w=>.ok (.value v) w) id n v u:=by
 cases d with
 | str s =>
  cases e with
  | int kd i =>
   obtain ⟨h1,rfl,rfl⟩:=aK hh
   obtain ⟨h2,h3⟩:=dV h1
   simp only [decide_eq_true_eq] at h2 h3
   have:=hy.int_inv
   subst this
   have:=hx.str_inv
   subst this
   refine Does.val m (.any (.cell (.pure (.int _ _) trivial))) ?_ id n
   have hlt:i.toNat < s.size:=by omega
   have e1:s[i.toNat]? = some s[i.toNat]:=by simp [hlt]
   have e2:nth s.data.toList i.toNat 0=s[i.toNat]:=by
    rw [dK s.data.toList 0 (j:=i.toNat) (by simpa using hlt)]
    rfl
   simp [Instr.index,asIntOf,bB hu,h2,e1,e2]
  | _=>exact (aC hh).elim
 | _=>cases e <;> exact (aC hh).elim
theorem w7 (m:Mem F B np w0 ext σ0 G hp tk w) {x y:Value} {d e:D} (hx:Rd F G tk x d) (hy:Rd F G tk y e) (id n:Nat) {t el:TypeId} {k len:Nat} {g:Bool}
  (hu:P.underlying t=some (.array len el)) (hg:bY P el=some g) (hk:cA P el=some k) (hgk:(g || k==1)=true) {v:D} {u:Upd} (hh:(aR (.indexArr g k len) id hp tk [d,e]).holds v u) :
  Does F B np w0 ext σ0 G hp tk (((Instr.index t x y).run P w).andThen fun v w=>.ok (.value v) w) id n v u:=by
 cases d with
 | agg l =>
  cases e with
  | int kd i =>
   simp only [aR] at hh
   have hl:∀ o,cC g k (l.drop (i.toNat * k))=o→(∃ v0,o=.ok v0 Upd.none∧k≤(l.drop (i.toNat * k)).length∧v0=mkv g ((l.drop (i.toNat * k)).take k))∨o=.bad:=by
    intro o ho
    unfold cC at ho
    cases hb:Nat.ble k (l.drop (i.toNat * k)).length with
    | true=>rw [hb] at ho; exact .inl ⟨_,ho.symm,Nat.le_of_ble_eq_true hb,rfl⟩
    | false=>rw [hb] at ho; exact .inr ho.symm
   rcases hl _ rfl with ⟨v0,h0,h01,rfl⟩ | h0
   ·rw [h0] at hh
    obtain ⟨h1,rfl,rfl⟩:=aK hh
    obtain ⟨h2,h3⟩:=dV h1
    simp only [decide_eq_true_eq] at h2 h3
    have:=hy.int_inv
    subst this
    obtain ⟨cs,rfl,h4,h5⟩:=hx.agg_inv
    obtain ⟨v',h6,h7⟩:=aES (w:=w) hg hk hgk h4 h5 h01
    refine Does.val m h7 ?_ id n
    simp [Instr.index,asIntOf,bB hu,h2,h3,cI hk,h6]
   ·rw [h0] at hh
    exact (aC hh).elim
  | _=>exact (aC hh).elim
 | oagg j off l nl =>
  cases e with
  | int kd i =>
   simp only [aR,jN] at hh
   cases hz:(g || !(Nat.beq k 1)) with
   | true=>rw [hz] at hh; exact (aC hh).elim
   | false =>
    rw [hz] at hh
    obtain ⟨h1,rfl,rfl⟩:=aK hh
    obtain ⟨h2,h4⟩:=dV h1
    obtain ⟨h2,h3⟩:=dV h2
    have h4:=Nat.le_of_ble_eq_true h4
    simp only [decide_eq_true_eq] at h2 h3
    simp only [Bool.or_eq_false_iff,Bool.not_eq_false'] at hz
    have hzk:=Nat.eq_of_beq_eq_true hz.2
    subst hzk
    obtain ⟨rfl,_⟩:=hz
    have:=hy.int_inv
    subst this
    obtain ⟨cs,rfl,h5,h6⟩:=hx.oagg_inv
    have hlt:i.toNat < cs.size:=by omega
    refine Does.val m (.oref j _ _ _ (h6 i.toNat (by omega))) ?_ id n
    simp [Instr.index,asIntOf,bB hu,h2,h3,cI hk,part,iO hg,hlt,Array.getD_eq_getD_getElem?]
  | _=>exact (aC hh).elim
 | _=>cases e <;> exact (aC hh).elim
theorem aCA (m:Mem F B np w0 ext σ0 G hp tk w) {x:Value} {d:D} (hx:Rd F G tk x d) (id n:Nat) {t ty:TypeId} {v:D} {u:Upd}
  {str:Bool} (hh:(aR (.len str) id hp tk [d]).holds v u) (hfit:if str then P.underlying t=some .string else ∃ e,P.underlying t=some (.slice e)) :
  Does F B np w0 ext σ0 G hp tk (((Builtin.len_ #[t] ty #[x]).run P w).andThen fun v w=>.ok (.value v) w) id n v u:=by
 cases d with
 | slice tg z l g =>
  cases str with
  | true=>exact (aC hh).elim
  | false =>
  obtain ⟨rfl,rfl⟩:=aF hh
  obtain ⟨a,c,rfl,_⟩:=hx.slice_inv.1.elem
  obtain ⟨e,he⟩:=hfit
  refine Does.val m (.any (.cell (.pure (.int _ _) trivial))) ?_ id n
  simp [Builtin.len_,bB he,goInt]
 | msl j z l =>
  cases str with
  | true=>exact (aC hh).elim
  | false =>
  obtain ⟨rfl,rfl⟩:=aF hh
  obtain ⟨a,c,rfl,_⟩:=hx.msl_inv
  obtain ⟨e,he⟩:=hfit
  refine Does.val m (.any (.cell (.pure (.int _ _) trivial))) ?_ id n
  simp [Builtin.len_,bB he,goInt]
 | osl j off l =>
  cases str with
  | true=>exact (aC hh).elim
  | false =>
  obtain ⟨rfl,rfl⟩:=aF hh
  obtain ⟨a,c,rfl,_⟩:=hx.osl_inv
  obtain ⟨e,he⟩:=hfit
  refine Does.val m (.any (.cell (.pure (.int _ _) trivial))) ?_ id n
  simp [Builtin.len_,bB he,goInt]
 | str s =>
  cases str with
  | false=>exact (aC hh).elim
  | true =>
  obtain ⟨rfl,rfl⟩:=aF hh
  have:=hx.str_inv
  subst this
  have hfit:P.underlying t=some .string:=hfit
  refine Does.val m (.any (.cell (.pure (.int _ _) trivial))) ?_ id n
  simp [Builtin.len_,bB hfit,goInt]
 | _=>cases str <;> exact (aC hh).elim
theorem Rt.ra {v:Value} {d:D} (h:Rt F G tk v d):Ra F G tk v d:=by
 cases h with
 | cell h=>exact .cell h
 | agg cs l h1 h2 =>
  refine .agg cs l h1 fun j hj=>?_
  obtain ⟨h3,h4⟩:=h2 j hj
  refine .pure h3 ?_
  rw [h4]
  exact b9 _ _
theorem zB (m:Mem F B np w0 ext σ0 G hp tk w) {x:Value} {d:D} (hx:Rd F G tk x d) (id n i:Nat) {v:D} {u:Upd} (hh:(aR (.extract i) id hp tk [d]).holds v u) :
  Does F B np w0 ext σ0 G hp tk (((Instr.extract x i).run P w).andThen fun v w=>.ok (.value v) w) id n v u:=by
 cases d with
 | tup l =>
  simp only [aR] at hh
  cases hb:Nat.blt i l.length with
  | false=>rw [hb] at hh; exact (aC hh).elim
  | true =>
   rw [hb] at hh
   obtain ⟨rfl,rfl⟩:=aF hh
   have hi:i < l.length:=by rw [Nat.blt_eq] at hb; exact hb
   obtain ⟨vs,rfl,h1,h2⟩:=hx.tup_inv
   refine Does.val m (.any (h2 i hi).ra) ?_ id n
   have:i < vs.size:=by omega
   simp [Instr.extract,this,Array.getD_eq_getD_getElem?]
 | _=>exact (aC hh).elim
theorem rY {k k':IntKind} (h:kD k k'=true):k=k':=by cases k <;> cases k' <;> first | rfl | cases h
theorem aJZ (m:Mem F B np w0 ext σ0 G hp tk w) {x:Value} {d:D} (hx:Rd F G tk x d) (id n:Nat) (op:UnOp) {v:D} {u:Upd} (hh:(aR (.un op) id hp tk [d]).holds v u) :
  Does F B np w0 ext σ0 G hp tk (((Op.unary op x).run P w).andThen fun v w=>.ok (.value v) w) id n v u:=by
 simp only [aR,un] at hh
 split at hh
 ·obtain ⟨rfl,rfl⟩:=aF hh
  have:=hx.bool_inv
  subst this
  exact Does.val m (.any (.cell (.pure (.bool _) trivial))) (by simp [Op.unary]) id n
 ·obtain ⟨rfl,rfl⟩:=aF hh
  have:=hx.int_inv
  subst this
  exact Does.val m (.any (.cell (.pure (.int _ _) trivial))) (by simp [Op.unary,Op.intArith]) id n
 ·exact (aC hh).elim
theorem rX {t:TypeId} (hu:P.underlying t=some .bool) (d:Nat) (a b:Bool) (w:World):(Op.equalIn (d+1) t (.bool a) (.bool b)).run P w=.ok (a==b) w:=by
 simp [Op.equalIn,bB hu]
theorem vU {t:TypeId} (hu:P.underlying t=some .bool) (a b:Bool) (w:World):(Op.equal t (.bool a) (.bool b)).run P w=.ok (a==b) w:=rX hu 9999 a b w
theorem aB3 (m:Mem F B np w0 ext σ0 G hp tk w) {x y:Value} {d e:D} (hx:Rd F G tk x d) (hy:Rd F G tk y e) (id n:Nat) (op:BinOp) {t:TypeId} {ox oy:Operand} {v:D} {u:Upd} (hh:(aR (.bin op) id hp tk [d,e]).holds v u) :
  Does F B np w0 ext σ0 G hp tk (((do eqGuard op t ox oy x y; binOp op t x y:Sem Value).run P w).andThen fun v w=>.ok (.value v) w) id n v u:=by
 simp only [aR,bin] at hh
 split at hh
 ·rename_i k a k' b
  have:=hx.int_inv; subst this
  have:=hy.int_inv; subst this
  cases hs:nV op with
  | true =>
   rw [hs] at hh
   simp only [cond_true] at hh
   cases op <;> simp only [nV,Bool.false_eq_true] at hs
   ·obtain ⟨h1,rfl,rfl⟩:=aK hh
    simp only [decide_eq_true_eq] at h1
    refine Does.val m (.any (.cell (.pure (.int _ _) trivial))) ?_ id n
    have:¬b < 0:=by omega
    simp [eqGuard,binOp,Op.shift,this]
   ·obtain ⟨h1,rfl,rfl⟩:=aK hh
    simp only [decide_eq_true_eq] at h1
    refine Does.val m (.any (.cell (.pure (.int _ _) trivial))) ?_ id n
    have:¬b < 0:=by omega
    simp [eqGuard,binOp,Op.shift,this]
  | false =>
   rw [hs] at hh
   simp only [cond_false] at hh
   cases hk:kD k k' with
   | false=>rw [hk] at hh; exact (aC hh).elim
   | true =>
    rw [hk] at hh
    have:=rY hk
    subst this
    simp only [cond_true] at hh
    cases op <;> simp only [nV,Bool.true_eq_false] at hs <;> simp only [zL] at hh
    case quo =>
     obtain ⟨h1,rfl,rfl⟩:=aK hh
     have h2:b≠0:=by intro h; subst h; simp at h1
     exact Does.val m (.any (.cell (.pure (.int _ _) trivial))) (by simp [eqGuard,binOp,Op.intDiv,h2]) id n
    case rem =>
     obtain ⟨h1,rfl,rfl⟩:=aK hh
     have h2:b≠0:=by intro h; subst h; simp at h1
     exact Does.val m (.any (.cell (.pure (.int _ _) trivial))) (by simp [eqGuard,binOp,Op.intDiv,h2]) id n
    case andNot=>exact (aC hh).elim
    all_goals
     obtain ⟨rfl,rfl⟩:=aF hh
     first
      | exact Does.val m (.any (.cell (.pure (.int _ _) trivial))) (by simp [eqGuard,binOp,Op.intArith,Op.intBits]) id n
      | exact Does.val m (.any (.cell (.pure (.bool _) trivial))) (by simp [eqGuard,binOp,Op.intCmp]) id n
 ·rename_i a b
  have:=hx.str_inv; subst this
  have:=hy.str_inv; subst this
  cases op <;> simp only [zY] at hh
  case add =>
   obtain ⟨h1,rfl,rfl⟩:=aK hh
   have h2:=Nat.le_of_ble_eq_true h1
   exact Does.val m (.any (.cell (.pure (.str _) trivial))) (by simp [eqGuard,binOp,Op.stringOp]; omega) id n
  all_goals first
   | exact (aC hh).elim
   | (obtain ⟨rfl,rfl⟩ := aF hh
      exact Does.val m (.any (.cell (.pure (.bool _) trivial))) (by simp [eqGuard,binOp,Op.stringOp]) id n)
 ·exact (aC hh).elim
theorem yS (m:Mem F B np w0 ext σ0 G hp tk w) {x y:Value} {d e:D} (hx:Rd F G tk x d) (hy:Rd F G tk y e) (id n:Nat) (neg:Bool) {t:TypeId} (hu:P.underlying t=some .bool) {ox oy:Operand} {v:D} {u:Upd} (hh:(aR (.binB neg) id hp tk [d,e]).holds v u) :
  Does F B np w0 ext σ0 G hp tk (((do eqGuard (if neg then .neq else .eql) t ox oy x y; binOp (if neg then .neq else .eql) t x y:Sem Value).run P w).andThen fun v w=>.ok (.value v) w) id n v u:=by
 cases d with
 | bool a =>
  cases e with
  | bool b =>
   have:=hx.bool_inv; subst this
   have:=hy.bool_inv; subst this
   cases neg <;> (obtain ⟨rfl,rfl⟩:=aF hh; exact Does.val m (.any (.cell (.pure (.bool _) trivial))) (by simp [eqGuard,binOp,vU hu]) id n)
  | _=>exact (aC hh).elim
 | _=>exact (aC hh).elim
end
section
variable {P:Program} {F:Nat→FuncId} {B np:Nat} {w0 w w':World} {ext:List Nat} {σ0:Og} {G G':Gh} {hp:Nat→Option (Bool×List D)} {tk tk':Nat→Option (Nat×Nat)}
theorem tO {t:TypeId} {g:Bool} {n:Nat} (hg:bY P t=some g) (hn:cA P t=some n) (hgn:(g || n==1)=true) {l:List D} (ho:n≤l.length) {b o:Nat} (f:Nat→Value)
  (hf:∀ j,j < n→w.cell? ⟨b,o+j,none⟩=some (f j)) (hr:∀ j,j < n→Rc F G tk (f j) (nth l j .dead)) :
  ∃ v,(loadVar t ⟨b,o,none⟩).run P w=.ok v w∧Rd F G tk v (mkv g (l.take n)):=by
 cases g with
 | true =>
  have h1:=run_loadCells (P:=P) w ⟨b,o,none⟩ n f (fun j hj=>by rw [cO]; exact hf j hj)
  refine ⟨.agg ((List.range n).map f).toArray,by simp [loadVar,iO hg,cI hn,h1],?_⟩
  refine .any (.agg _ _ (by simp; omega) fun j hj=>?_)
  simp only [List.length_take] at hj
  rw [kK _ _ _ (by omega)]
  have:(((List.range n).map f).toArray).getD j undef=f j:=by
   have:j < n:=by omega
   simp [Array.getD_eq_getD_getElem?,this]
  rw [this]
  exact hr j (by omega)
 | false =>
  have h1:n=1:=by simpa using hgn
  subst h1
  have h2:=hf 0 (by omega)
  simp only [Nat.add_zero] at h2
  refine ⟨f 0,by simp [loadVar,iO hg,h2],?_⟩
  have:mkv false (l.take 1)=nth l 0 .dead:=by
   simp only [mkv,cond_false]
   exact kK _ _ _ (by omega)
  rw [this]
  exact .any (.cell (hr 0 (by omega)))
theorem Mem.var_cell (m:Mem F B np w0 ext σ0 G hp tk w) {id:Nat} {f:Bool} {cs:List D} (h:hp id=some (f,cs)) (hs:(f || aI cs)=true):∃ val:Nat→Value,∀ j,j < cs.length→w.cell? ⟨G.β id,j,none⟩=some (val j)∧Rc F G tk (val j) (nth cs j .dead):=by
 cases f with
 | false =>
  obtain ⟨o,h1,hh,_⟩:=m.vars id cs h (bW (by simpa using hs))
  obtain ⟨c,e,rfl,h2,h3⟩:=hh.cells (by simpa using hs)
  refine ⟨fun j=>c.getD j undef,fun j hj=>⟨?_,h3 j hj⟩⟩
  rw [cell_of_row w _ j c e _ h1]
  have:j < c.size:=by omega
  simp [this]
 | true =>
  have h1:=m.froz id cs h
  refine ⟨fun j=>(G.σ (G.β id) j).getD undef,fun j hj=>?_⟩
  obtain ⟨v,h2,h3,h4⟩:=h1 j hj
  simp only [h2,Option.getD_some]
  refine ⟨m.cell h2,.pure h3 ?_⟩
  rw [h4]
  exact b9 _ _
theorem Mem.obj_cell (m:Mem F B np w0 ext σ0 G hp tk w) {id mm c va:Nat} {nl:Nat→Bool} {n:Nat→Nat} {ks:Nat→Nat→ByteArray} {vs:Nat→Nat→List D} (h:hp id=some (false,[.dead,.obj mm c va nl n ks vs])) :
  ∃ val:Nat→Value,∀ j,j < mm % 100→w.cell? ⟨G.β id,j,none⟩=some (val j)∧RefO G id j (nl j) (val j):=by
 obtain ⟨cs,e,h1,h2,h3,_⟩:=m.obs.objs id _ _ _ _ _ _ _ h
 obtain ⟨_,_,_,_,h4⟩:=m.frn _ _ h1
 refine ⟨fun j=>cs.getD j undef,fun j hj=>⟨?_,?_⟩⟩
 ·rw [cell_of_row w _ j cs e _ h4]
  have:j < cs.size:=by omega
  simp [this]
 ·rcases h3 j with ⟨h5,h6,_⟩ | ⟨h5,blk,ob,h6,h7,_⟩
  ·exact .inl ⟨h5,h6 hj⟩
  ·exact .inr ⟨h5,blk,_,h6 hj,h7⟩
theorem aFX (m:Mem F B np w0 ext σ0 G hp tk w) {x:Value} {d:D} (hx:Rd F G tk x d) (id n:Nat) {t:TypeId} {k:Nat} {g:Bool} (hg:bY P t=some g) (hk:cA P t=some k) (hgk:(g || k==1)=true)
  {v:D} {u:Upd} (hh:(aR (.load g k) id hp tk [d]).holds v u) :
  Does F B np w0 ext σ0 G hp tk (((Instr.loadAt t x).run P w).andThen fun v w=>.ok (.value v) w) id n v u:=by
 cases d with
 | ptr i o =>
  simp only [aR] at hh
  cases hi:hp i with
  | none=>rw [hi] at hh; exact (aC hh).elim
  | some e =>
   obtain ⟨f,cs⟩:=e
   rw [hi] at hh
   simp only at hh
   cases hfs:(f || aI cs) with
   | false =>
    rw [hfs] at hh
    simp only [cond_false] at hh
    unfold nT at hh
    split at hh
    ·rename_i mm c va nl nn ks vs heq
     cases heq
     obtain ⟨h1,rfl,rfl⟩:=aK hh
     have h1:=Nat.le_of_ble_eq_true h1
     obtain ⟨val,h2⟩:=m.obj_cell hi
     have hx':=hx.ptr_inv
     subst hx'
     cases g with
     | false =>
      have hk1:k=1:=by simpa using hgk
      subst hk1
      obtain ⟨h3,h4⟩:=h2 o (by omega)
      exact Does.val m (.oref i o _ _ h4) (by simp [Instr.loadAt,Instr.sureAddr,loadVar,iO hg,h3]) id n
     | true =>
      have h3:=run_loadCells (P:=P) w ⟨G.β i,o,none⟩ k (fun j=>val (o+j)) (fun j hj=>by rw [cO]; exact (h2 (o+j) (by omega)).1)
      refine Does.val m (v:=.agg ((List.range k).map fun j=>val (o+j)).toArray) (.oagg i o k nl _ (by simp) fun j hj=>?_) (by simp [Instr.loadAt,Instr.sureAddr,loadVar,iO hg,cI hk,h3]) id n
      have:(((List.range k).map fun j=>val (o+j)).toArray).getD j undef=val (o+j):=by
       simp [Array.getD_eq_getD_getElem?,hj]
      rw [this]
      exact (h2 (o+j) (by omega)).2
    ·exact (aC hh).elim
   | true =>
   rw [hfs] at hh
   obtain ⟨h1,rfl,rfl⟩:=eX hh
   obtain ⟨val,h2⟩:=m.var_cell hi hfs
   rw [List.length_drop] at h1
   have hx':=hx.ptr_inv
   subst hx'
   obtain ⟨v',h3,h4⟩:=tO (F:=F) (G:=G) (tk:=tk) (w:=w) hg hk hgk (l:=cs.drop o) (by rw [List.length_drop]; exact h1) (b:=G.β i) (o:=o) (fun j=>val (o+j)) (fun j hj=>(h2 (o+j) (by omega)).1)
    (fun j hj=>by rw [hO]; exact (h2 (o+j) (by omega)).2)
   exact Does.val m h4 (by simp [Instr.loadAt,Instr.sureAddr,h3]) id n
 | eptr l =>
  obtain ⟨h1,rfl,rfl⟩:=eX hh
  rw [aO] at h1
  obtain ⟨b,o,rfl,h2⟩:=hx.eptr_inv
  obtain ⟨v',h3,h4⟩:=tO (F:=F) (G:=G) (tk:=tk) (w:=w) hg hk hgk (l:=aM l) (by rw [aO]; exact h1) (b:=b) (o:=o) (fun j=>(G.σ b (o+j)).getD undef)
   (fun j hj=>by obtain ⟨v,h3,_⟩:=h2 j (by omega); rw [h3]; exact m.cell h3)
   (fun j hj=>by
    obtain ⟨v,h3,h4⟩:=h2 j (by omega)
    rw [h3,aU]
    exact .pure h4 (b9 _ _))
  exact Does.val m h4 (by simp [Instr.loadAt,Instr.sureAddr,h3]) id n
 | rptr i z n' q o =>
  simp only [aR] at hh
  unfold qY at hh
  split at hh
  ·rename_i fw z' n2 g2 hi
   cases hz:Nat.beq z' z with
   | false=>rw [hz] at hh; exact (aC hh).elim
   | true =>
   rw [hz] at hh
   have:=Nat.eq_of_beq_eq_true hz
   subst this
   obtain ⟨hnn,hh2⟩:=l5 hh
   subst hnn
   obtain ⟨h1,rfl,rfl⟩:=eX hh2
   obtain ⟨b,c,rfl,h2,h3⟩:=hx.rptr_inv
   obtain ⟨a,c',h4,h5⟩:=m.rows i fw z' n2 g2 hi
   rw [h4.at_] at h2
   cases h2
   have hle:=h4.le
   obtain ⟨_,ob,h6,cur,et,rfl,h7,h8⟩:=h5 b rfl (by omega)
   obtain ⟨h9,h10⟩:=h8 q h3
   rw [List.length_drop,aO,h9] at h1
   have hlt:∀ j,j < z'→q * z'+j < cur.size:=fun j hj=>by
    have:(q+1) * z'≤c * z':=Nat.mul_le_mul_right _ (by omega)
    rw [Nat.add_mul] at this
    omega
   obtain ⟨v',h11,h12⟩:=tO (F:=F) (G:=G) (tk:=tk) (w:=w) hg hk hgk (l:=(aM (g2 q)).drop o) (by rw [List.length_drop,aO,h9]; exact h1) (b:=b) (o:=q * z'+o) (fun j=>cur.getD (q * z'+(o+j)) undef)
    (fun j hj=>by
     rw [cell_of_row w _ _ cur et _ h6,Nat.add_assoc]
     have:=hlt (o+j) (by omega)
     simp [this])
    (fun j hj=>by
     rw [hO,aU]
     exact .pure (h10 (o+j) (by omega)).2 (b9 _ _))
   exact Does.val m h12 (by simp [Instr.loadAt,Instr.sureAddr,h11]) id n
  ·exact (aC hh).elim
 | _=>exact (aC hh).elim
theorem aGI (m:Mem F B np w0 ext σ0 G hp tk w) {x:Value} {d:D} (hx:Rd F G tk x d) (id n:Nat) {v:D} {u:Upd} (hh:(aR .move id hp tk [d]).holds v u) :
  Does F B np w0 ext σ0 G hp tk (.ok (.value x) w) id n v u:=by
 obtain ⟨rfl,rfl⟩:=aF hh
 exact Does.val m hx rfl id n
theorem aG4 (m:Mem F B np w0 ext σ0 G hp tk w) {x y z:Value} {d e f:D} (hx:Rd F G tk x d) (hy:Rd F G tk y e) (hz:Rd F G tk z f) (id n:Nat) {v:D} {u:Upd} (hh:(aR .pick id hp tk [d,e,f]).holds v u) :
  Does F B np w0 ext σ0 G hp tk (((asBool x).run P w).andThen fun b w=>.ok (.value (if b then y else z)) w) id n v u:=by
 cases d with
 | bool b =>
  obtain ⟨rfl,rfl⟩:=aF hh
  have:=hx.bool_inv
  subst this
  cases b with
  | true=>exact Does.val m hy (by simp [asBool]) id n
  | false=>exact Does.val m hz (by simp [asBool]) id n
 | _=>exact (aC hh).elim
theorem xE (m:Mem F B np w0 ext σ0 G hp tk w) {x:Value} {d:D} (hx:Rd F G tk x d) (id n:Nat) {v:D} {u:Upd} (hh:(aR .nilCheck id hp tk [d]).holds v u) :
  ∃ b o,x=.pointer (some ⟨b,o,none⟩)∧Does F B np w0 ext σ0 G hp tk (.ok (.value x) w) id n v u:=by
 cases d with
 | ptr i o =>
  obtain ⟨rfl,rfl⟩:=aF hh
  exact ⟨_,_,hx.ptr_inv,Does.val m hx rfl id n⟩
 | eptr l =>
  obtain ⟨rfl,rfl⟩:=aF hh
  obtain ⟨b,o,h1,_⟩:=hx.eptr_inv
  exact ⟨b,o,h1,Does.val m hx rfl id n⟩
 | rptr j z n' i o =>
  obtain ⟨rfl,rfl⟩:=aF hh
  obtain ⟨b,c,h1,_⟩:=hx.rptr_inv
  exact ⟨b,_,h1,Does.val m hx rfl id n⟩
 | _=>exact (aC hh).elim
theorem xK (m:Mem F B np w0 ext σ0 G hp tk w) {x y:Value} {d e:D} (hx:Rd F G tk x d) (hy:Rd F G tk y e) (id n:Nat) (isMax:Bool) {at_:Array TypeId} {ty:TypeId} {v:D} {u:Upd} (hh:(aR (.mnmx isMax) id hp tk [d,e]).holds v u) :
  Does F B np w0 ext σ0 G hp tk ((((if isMax then Builtin.max_ at_ ty #[x,y] else Builtin.min_ at_ ty #[x,y]):Sem Value).run P w).andThen fun v w=>.ok (.value v) w) id n v u:=by
 cases d with
 | int k a =>
  cases e with
  | int k' b =>
   obtain ⟨rfl,rfl⟩:=aF hh
   have:=hx.int_inv; subst this
   have:=hy.int_inv; subst this
   refine Does.val m (.any (.cell (.pure (.int _ _) trivial))) ?_ id n
   cases isMax
   ·by_cases h:b < a <;> simp [Builtin.min_,Builtin.min2,h]
   ·by_cases h:a < b <;> simp [Builtin.max_,Builtin.max2,h]
  | _=>exact (aC hh).elim
 | _=>cases e <;> exact (aC hh).elim
theorem z8 (m:Mem F B np w0 ext σ0 G hp tk w) {x:Value} {d:D} (hx:Rd F G tk x d) (id n:Nat) {src dst:TypeId} {k k':IntKind} (hs:P.underlying src=some (.int k')) (hd:P.underlying dst=some (.int k)) {v:D} {u:Upd}
  (hh:(aR (.conv (.int k)) id hp tk [d]).holds v u):Does F B np w0 ext σ0 G hp tk (((convert src dst x).run P w).andThen fun v w=>.ok (.value v) w) id n v u:=by
 cases d with
 | int k0 a =>
  obtain ⟨rfl,rfl⟩:=aF hh
  have:=hx.int_inv; subst this
  exact Does.val m (.any (.cell (.pure (.int _ _) trivial))) (by simp [convert,bB hs,bB hd,Conv.intToInt]) id n
 | _=>exact (aC hh).elim
theorem aAI (m:Mem F B np w0 ext σ0 G hp tk w) {x:Value} {d:D} (hx:Rd F G tk x d) (id n:Nat) {src dst:TypeId} (hs:P.underlying src=some .string) (hd:P.underlying dst=some .string) {v:D} {u:Upd}
  (hh:(aR (.conv .same) id hp tk [d]).holds v u):Does F B np w0 ext σ0 G hp tk (((convert src dst x).run P w).andThen fun v w=>.ok (.value v) w) id n v u:=by
 obtain ⟨s,rfl⟩:∃ s,d=.str s:=by cases d <;> first | exact ⟨_,rfl⟩ | exact (aC hh).elim
 obtain ⟨rfl,rfl⟩:=aF hh
 have:=hx.str_inv; subst this
 exact Does.val m (.any (.cell (.pure (.str _) trivial))) (by simp [convert,bB hs,bB hd]) id n
theorem w9 (m:Mem F B np w0 ext σ0 G hp tk w) {x:Value} {d:D} (hx:Rd F G tk x d) (id n:Nat) {src dst:TypeId} {k:IntKind} (hs:P.underlying src=some (.int k)) (hd:P.underlying dst=some .string) {v:D} {u:Upd}
  (hh:(aR (.conv .r2s) id hp tk [d]).holds v u):Does F B np w0 ext σ0 G hp tk (((convert src dst x).run P w).andThen fun v w=>.ok (.value v) w) id n v u:=by
 obtain ⟨k,r,rfl⟩:∃ k r,d=.int k r:=by cases d <;> first | exact ⟨_,_,rfl⟩ | exact (aC hh).elim
 obtain ⟨rfl,rfl⟩:=aF hh
 have:=hx.int_inv; subst this
 exact Does.val m (.any (.cell (.pure (.str _) trivial))) (by simp [convert,bB hs,bB hd,Conv.intToString]) id n
theorem rA {t e:TypeId} (hu:P.underlying t=some (.slice e)) (d:Nat) (a:Option Addr) (n c:Nat) (w:World):(Op.equalIn (d+1) t (.slice a n c) (.slice none 0 0)).run P w=.ok a.isNone w:=by
 cases a <;> simp [Op.equalIn,bB hu]
theorem mG {t e:TypeId} (hu:P.underlying t=some (.slice e)) (a:Option Addr) (n c:Nat) (w:World):(Op.equal t (.slice a n c) (.slice none 0 0)).run P w=.ok a.isNone w:=rA hu 9999 a n c w
theorem tA {t e:TypeId} (hu:P.underlying t=some (.pointer e)) (d:Nat) (a:Option Addr) (w:World):(Op.equalIn (d+1) t (.pointer a) (.pointer none)).run P w=.ok a.isNone w:=by
 cases a <;> simp [Op.equalIn,bB hu]
theorem xD {t e:TypeId} (hu:P.underlying t=some (.pointer e)) (a:Option Addr) (w:World):(Op.equal t (.pointer a) (.pointer none)).run P w=.ok a.isNone w:=tA hu 9999 a w
theorem aCT (m:Mem F B np w0 ext σ0 G hp tk w) {x:Value} {d:D} (hx:Rd F G tk x d) (id n:Nat) (neg:Bool) {t e:TypeId} (hu:P.underlying t=some (.slice e)) {ox oy:Operand} {v:D} {u:Upd} (hh:(aR (.isNil false neg) id hp tk [d]).holds v u) :
  Does F B np w0 ext σ0 G hp tk (((do eqGuard (if neg then .neq else .eql) t ox oy x (.slice none 0 0); binOp (if neg then .neq else .eql) t x (.slice none 0 0):Sem Value).run P w).andThen fun v w=>.ok (.value v) w) id n v u:=by
 cases d with
 | slice tg z l g =>
  obtain ⟨a,c,rfl⟩:∃ a c,x=.slice a l c:=by
   cases hx with | any h=>cases h with | cell h=>cases h with | pure h _=>cases h; exact ⟨_,_,rfl⟩
  have hn:l≠0→a.isNone=false:=by
   intro hl
   cases hx with | any h=>cases h with | cell h=>cases h with | pure h _=>cases h with | slice _ _ _ _ _ _ b o val h1 h2 h3 h4 h5=>rw [h2 hl]; rfl
  rcases bV hh with ⟨_,rfl,rfl⟩ | ⟨hb,rfl,rfl⟩
  ·exact Does.val m (v:=.bool (if neg then !a.isNone else a.isNone)) (.any (.cell (.pure (.ubool _) trivial))) (by cases neg <;> simp [eqGuard,binOp,mG hu]) id n
  ·have:a.isNone=false:=hn (fun h=>by subst h; cases hb)
   cases neg <;> exact Does.val m (.any (.cell (.pure (.bool _) trivial))) (by simp [eqGuard,binOp,mG hu,this]) id n
 | _=>exact (aC hh).elim
theorem aBF (m:Mem F B np w0 ext σ0 G hp tk w) {x:Value} {d:D} (hx:Rd F G tk x d) (id n:Nat) (neg:Bool) {t e:TypeId} (hu:P.underlying t=some (.pointer e)) {ox oy:Operand} {v:D} {u:Upd} (hh:(aR (.isNil true neg) id hp tk [d]).holds v u) :
  Does F B np w0 ext σ0 G hp tk (((do eqGuard (if neg then .neq else .eql) t ox oy x (.pointer none); binOp (if neg then .neq else .eql) t x (.pointer none):Sem Value).run P w).andThen fun v w=>.ok (.value v) w) id n v u:=by
 have key:∀ a:Option Addr,x=.pointer a→v=.bool (if neg then !a.isNone else a.isNone)→u=Upd.none→Does F B np w0 ext σ0 G hp tk (((do eqGuard (if neg then .neq else .eql) t ox oy x (.pointer none); binOp (if neg then .neq else .eql) t x (.pointer none):Sem Value).run P w).andThen fun v w=>.ok (.value v) w) id n v u:=by
  rintro a rfl rfl rfl
  exact Does.val m (.any (.cell (.pure (.bool _) trivial))) (by cases neg <;> simp [eqGuard,binOp,xD hu]) id n
 cases d with
 | nilp =>
  obtain ⟨rfl,rfl⟩:=aF hh
  refine key none ?_ (by cases neg <;> rfl) rfl
  cases hx with | any h=>cases h with | cell h=>cases h with | pure h _=>cases h; rfl
 | ptr i o =>
  obtain ⟨rfl,rfl⟩:=aF hh
  exact key _ hx.ptr_inv (by cases neg <;> rfl) rfl
 | eptr l =>
  obtain ⟨rfl,rfl⟩:=aF hh
  have hx':∃ a,x=.pointer (some a):=by
   cases hx with | any h=>cases h with | cell h=>cases h with
    | pure h _=>cases h
    | eptr b o _ _=>exact ⟨_,rfl⟩
  obtain ⟨a,rfl⟩:=hx'
  exact key _ rfl (by cases neg <;> rfl) rfl
 | _=>exact (aC hh).elim
theorem aG2 {has:Bool} {l r:List D} {dflt n:Int} (h:tD has l dflt=some (n,r)):(has=false∧n=dflt∧r=l)∨(has=true∧∃ k,l=.int k n::r):=by
 cases has with
 | false=>simp only [tD,cond_false,Option.some.injEq,Prod.mk.injEq] at h; exact .inl ⟨rfl,h.1.symm,h.2.symm⟩
 | true =>
  simp only [tD,cond_true] at h
  split at h
  ·rename_i k n' r'
   simp only [Option.some.injEq,Prod.mk.injEq] at h
   obtain ⟨rfl,rfl⟩:=h
   exact .inr ⟨rfl,k,rfl⟩
  ·cases h
theorem eE (k:IntKind) (i:Int) (y:Nat) (code:BoundsCode) (h:0≤i∧i≤y):(Instr.sliceBound (.int k i) y code).run P w=.ok i.toNat w:=by
 simp [Instr.sliceBound,asIntOf,h.1,h.2]
theorem Rp.sub {σ:Sg} {x:Value} {n:Nat} {t:Tag} {z:Nat} {g:Nat→List D} (h:Rp σ x (.slice t z n g)) {a:Option Addr} {c:Nat} (hx:x=.slice a n c) (t':Tag) (l k c':Nat) (hl:l+k≤n) (hc:k≤c') (a':Option Addr) (ha:0 < k→a'=a.map (·.add (l * z))) :
  Rp σ (.slice a' k c') (.slice t' z k (aFH g l)):=by
 subst hx
 cases h with
 | slice _ _ _ _ _ _ b o val h1 h2 h3 h4 h5 =>
  refine .slice a' k c' t' z (aFH g l) b (o+l * z) (fun i j=>val (i+l) j) hc (fun hk=>?_) (fun i hi=>h3 _ (by omega)) (fun i j hi hj=>?_) (fun i j hi hj=>h5 _ _ (by omega) hj)
  ·rw [ha (by omega),h2 (by omega)]
   simp [cO]
  ·have:=h4 (i+l) j (by omega) hj
   rw [Nat.add_mul] at this
   rw [show o+l * z+i * z+j=o+(i * z+l * z)+j from by omega]
   exact this
end
section
variable {P:Program} {F:Nat→FuncId} {B np:Nat} {w0 w w':World} {ext:List Nat} {σ0:Og} {G G':Gh} {hp:Nat→Option (Bool×List D)} {tk tk':Nat→Option (Nat×Nat)}
inductive Op1 (F:Nat→FuncId) (G:Gh) (tk:Nat→Option (Nat×Nat)):Option Value→Bool→List D→List D→Prop
 | absent (l:List D):Op1 F G tk Option.none false l l
 | here {v:Value} {d:D} (l:List D):Rd F G tk v d→Op1 F G tk (Option.some v) true (d::l) l
theorem Op1.int {ov:Option Value} {has:Bool} {l r r':List D} {dflt n:Int} (h:Op1 F G tk ov has l r) (ho:tD has l dflt=some (n,r')):r'=r∧((ov=Option.none∧has=false∧n=dflt)∨(has=true∧∃ k,ov=Option.some (.int k n))):=by
 cases h with
 | absent l =>
  simp only [tD,cond_false,Option.some.injEq,Prod.mk.injEq] at ho
  exact ⟨ho.2.symm,.inl ⟨rfl,rfl,ho.1.symm⟩⟩
 | here l hv =>
  rcases aG2 ho with ⟨h1,_⟩ | ⟨_,k,h2⟩
  ·cases h1
  ·cases h2
   exact ⟨rfl,.inr ⟨rfl,k,by rw [hv.int_inv]⟩⟩
theorem iF (isSlice:Bool) (n c M:Nat) (lov hiv mxv:Option Value) (l h:Int) (hlo:(lov=none∧l=0)∨∃ k,lov=some (.int k l))
  (hhi:(hiv=none∧mxv=none∧h=n)∨∃ k,hiv=some (.int k h)) (hmx:(mxv=none∧M=c)∨∃ k,mxv=some (.int k (M:Int))∧M≤c) (h1:0≤l) (h2:l≤h) (h3:h≤M) :
  (Instr.sliceBounds isSlice n c lov hiv mxv).run P w=.ok (l.toNat,h.toNat,M) w:=by
 have hh:h.toNat=h:=by omega
 rcases hmx with ⟨rfl,rfl⟩ | ⟨k,rfl,hM⟩
 ·rcases hhi with ⟨rfl,_,rfl⟩ | ⟨k,rfl⟩
  ·rcases hlo with ⟨rfl,rfl⟩ | ⟨k',rfl⟩
   ·simp [Instr.sliceBounds]
   ·have:=eE (P:=P) (w:=w) k' l n .sliceB ⟨h1,by omega⟩
    simp [Instr.sliceBounds,this]
  ·have e1:∀ code,(Instr.sliceBound (.int k h) M code).run P w=.ok h.toNat w:=fun code=>eE k h M code ⟨by omega,h3⟩
   rcases hlo with ⟨rfl,rfl⟩ | ⟨k',rfl⟩
   ·simp [Instr.sliceBounds,e1]
   ·have e2:∀ code,(Instr.sliceBound (.int k' l) h.toNat code).run P w=.ok l.toNat w:=fun code=>eE k' l h.toNat code ⟨h1,by omega⟩
    simp [Instr.sliceBounds,e1,e2]
 ·have e0:∀ code,(Instr.sliceBound (.int k (M:Int)) c code).run P w=.ok M w:=fun code=>by
   have:=eE (P:=P) (w:=w) k (M:Int) c code ⟨by omega,by omega⟩
   simpa using this
  rcases hhi with ⟨_,hn,_⟩ | ⟨k2,rfl⟩
  ·cases hn
  ·have e1:∀ code,(Instr.sliceBound (.int k2 h) M code).run P w=.ok h.toNat w:=fun code=>eE k2 h M code ⟨by omega,h3⟩
   rcases hlo with ⟨rfl,rfl⟩ | ⟨k',rfl⟩
   ·simp [Instr.sliceBounds,e0,e1]
   ·have e2:∀ code,(Instr.sliceBound (.int k' l) h.toNat code).run P w=.ok l.toNat w:=fun code=>eE k' l h.toNat code ⟨h1,by omega⟩
    simp [Instr.sliceBounds,e0,e1,e2]
theorem zU (m:Mem F B np w0 ext σ0 G hp tk w) {x:Value} {d:D} (hx:Rd F G tk x d) {lov hiv mxv:Option Value} {lo hi mx:Bool} {r0 r1 r2:List D} (hlo:Op1 F G tk lov lo r0 r1) (hhi:Op1 F G tk hiv hi r1 r2) (hmx:Op1 F G tk mxv mx r2 [])
  (hmh:mx=true→hi=true) (id nn:Nat) {t el:TypeId} {k:Nat} (hu:P.underlying t=some (.slice el)) (hk:cA P el=some k) {v:D} {u:Upd}
  (hh:(aR (.sliceSl k lo hi mx) id hp tk (d::r0)).holds v u) :
  Does F B np w0 ext σ0 G hp tk (((Instr.sliceAt t x lov hiv mxv).run P w).andThen fun v w=>.ok (.value v) w) id nn v u:=by
 cases d with
 | slice tg z n g =>
  simp only [aR] at hh
  cases hzz:Nat.beq z k with
  | false=>rw [hzz] at hh; exact (aC hh).elim
  | true =>
  rw [hzz] at hh
  have:=Nat.eq_of_beq_eq_true hzz
  subst this
  simp only [Bool.not_true,cond_false] at hh
  split at hh
  ·rename_i l r1' he1
   obtain ⟨rfl,hl⟩:=hlo.int he1
   split at hh
   ·rename_i h r2' he2
    obtain ⟨rfl,hh'⟩:=hhi.int he2
    split at hh
    ·rename_i mm he3
     obtain ⟨_,hm'⟩:=hmx.int he3
     obtain ⟨q1,rfl,rfl⟩:=aK hh
     obtain ⟨q2,h4⟩:=dV q1
     obtain ⟨q3,h3⟩:=dV q2
     obtain ⟨h1,h2⟩:=dV q3
     clear q1 q2 q3
     simp only [decide_eq_true_eq,beq_iff_eq] at h1 h2 h3 h4
     subst h4
     have hp1:=hx.slice_inv.1
     obtain ⟨a,c,rfl,hnc,_,_⟩:=hp1.elem
     have hM:∃ M:Nat,((mxv=none∧M=c)∨∃ k,mxv=some (.int k (M:Int))∧M≤c)∧mm≤M∧(mx=true→(M:Int)=mm):=by
      rcases hm' with ⟨e1,e2,_⟩ | ⟨e1,k',e2⟩
      ·exact ⟨c,.inl ⟨e1,rfl⟩,by omega,fun e=>by rw [e2] at e; cases e⟩
      ·refine ⟨mm.toNat,.inr ⟨k',by rw [e2,show ((mm.toNat:Nat):Int)=mm from by omega],by omega⟩,by omega,fun _=>by omega⟩
     obtain ⟨M,hM1,hM2,hM3⟩:=hM
     have hrun:=iF (P:=P) (w:=w) true n c M lov hiv mxv l mm (by
       rcases hl with ⟨e1,_,e3⟩ | ⟨_,e⟩
       ·exact .inl ⟨e1,e3⟩
       ·exact .inr e) (by
       rcases hh' with ⟨e1,e2,e3⟩ | ⟨_,e⟩
       ·refine .inl ⟨e1,?_,e3⟩
        rcases hm' with ⟨e4,_⟩ | ⟨e4,_⟩
        ·exact e4
        ·exact absurd (hmh e4) (by rw [e2]; simp)
       ·exact .inr e) hM1 h1 h2 hM2
     refine Does.val m (v:=.slice (if M=l.toNat then a else a.map (·.add (l.toNat * z))) (mm.toNat - l.toNat) (M - l.toNat)) ?_ ?_ id nn
     ·have e1:(mm - l).toNat=mm.toNat - l.toNat:=by omega
      rw [e1]
      refine .any (.cell (.pure (hp1.sub rfl _ l.toNat (mm.toNat - l.toNat) (M - l.toNat) (by omega) (by omega) _ fun hpos=>?_) ?_))
      ·rw [if_neg (by omega)]
      ·cases mx with
       | false=>trivial
       | true =>
        have:=hM3 rfl
        refine ⟨if M=l.toNat then a else a.map (·.add (l.toNat * z)),?_⟩
        rw [show M - l.toNat=mm.toNat - l.toNat from by omega]
     ·simp [Instr.sliceAt,bB hu,Instr.slice,hrun,cI hk]
    ·exact (aC hh).elim
   ·exact (aC hh).elim
  ·exact (aC hh).elim
 | _=>exact (aC hh).elim
theorem xC (m:Mem F B np w0 ext σ0 G hp tk w) {x:Value} {d:D} (hx:Rd F G tk x d) {lov hiv:Option Value} {lo hi:Bool} {r0 r1:List D} (hlo:Op1 F G tk lov lo r0 r1) (hhi:Op1 F G tk hiv hi r1 [])
  (id nn:Nat) {t:TypeId} (hu:P.underlying t=some .string) {v:D} {u:Upd} (hh:(aR (.sliceStr lo hi) id hp tk (d::r0)).holds v u) :
  Does F B np w0 ext σ0 G hp tk (((Instr.sliceAt t x lov hiv none).run P w).andThen fun v w=>.ok (.value v) w) id nn v u:=by
 cases d with
 | str s =>
  simp only [aR] at hh
  split at hh
  ·rename_i l r1' he1
   obtain ⟨rfl,hl⟩:=hlo.int he1
   split at hh
   ·rename_i h he2
    obtain ⟨_,hh'⟩:=hhi.int he2
    obtain ⟨q1,rfl,rfl⟩:=aK hh
    obtain ⟨q2,h3⟩:=dV q1
    obtain ⟨h1,h2⟩:=dV q2
    clear q1 q2
    simp only [decide_eq_true_eq] at h1 h2 h3
    have:=hx.str_inv
    subst this
    have hrun:=iF (P:=P) (w:=w) false s.size s.size s.size lov hiv none l h (by
      rcases hl with ⟨e1,_,e3⟩ | ⟨_,e⟩
      ·exact .inl ⟨e1,e3⟩
      ·exact .inr e) (by
      rcases hh' with ⟨e1,e2,e3⟩ | ⟨_,e⟩
      ·exact .inl ⟨e1,rfl,e3⟩
      ·exact .inr e) (.inl ⟨rfl,rfl⟩) h1 h2 h3
    refine Does.val m (.any (.cell (.pure (.str _) trivial))) ?_ id nn
    simp [Instr.sliceAt,bB hu,Instr.slice,hrun]
   ·exact (aC hh).elim
  ·exact (aC hh).elim
 | _=>exact (aC hh).elim
theorem aEI (ns:List Int):∀ (b:ByteArray),(ns.foldl (fun r n=>r.push (UInt8.ofNat n.toNat)) b).data.toList=b.data.toList++ns.map fun n=>UInt8.ofNat n.toNat:=by
 induction ns with
 | nil=>intro b; simp
 | cons n ns ih =>
  intro b
  simp only [List.foldl_cons,ih,List.map_cons]
  simp [ByteArray.push]
theorem aHP (m:Mem F B np w0 ext σ0 G hp tk w) {x:Value} {d:D} (hx:Rd F G tk x d) (id nn:Nat) {src dst e:TypeId} (hs:P.underlying src=some (.slice e)) (he:P.underlying e=some (.int .u8)) (hd:P.underlying dst=some .string) {v:D} {u:Upd}
  (hh:(aR (.conv .b2s) id hp tk [d]).holds v u):Does F B np w0 ext σ0 G hp tk (((convert src dst x).run P w).andThen fun v w=>.ok (.value v) w) id nn v u:=by
 cases d with
 | slice tg z n g =>
  obtain ⟨hb,rfl,rfl⟩:=aS hh
  obtain ⟨a,c,rfl,hnc,hlen,hel⟩:=hx.slice_inv.1.elem
  have key:∃ ns:List Int,(Conv.bytesToString (.slice a n c)).run P w=.ok (.string (ns.foldl (fun r n=>r.push (UInt8.ofNat n.toNat)) ByteArray.empty)) w∧ns.map (fun n=>UInt8.ofNat n.toNat)=kB g n:=by
   cases a with
   | none =>
    have hn:n=0:=by
     rcases Nat.eq_zero_or_pos n with h | h
     ·exact h
     ·obtain ⟨b,o,h1,_⟩:=hel 0 h; cases h1
    subst hn
    exact ⟨[],by simp [Conv.bytesToString],rfl⟩
   | some ad =>
    have hz1:∀ i,i < n→z=1∧∃ bb:UInt8,w.cell? (ad.add i)=some (.int .u8 (bb.toNat:Int))∧rF (g i)=bb:=by
     intro i hi
     obtain ⟨bb,hg⟩:=hb i hi
     have h1:=hlen i hi
     rw [hg] at h1
     have hz:z=1:=by simpa using h1.symm
     subst hz
     obtain ⟨b,o,h2,h3⟩:=hel i hi
     cases h2
     obtain ⟨v,h4,h5⟩:=h3 0 (by rw [hg]; simp)
     rw [hg] at h5
     simp only [nth,D.pure1] at h5
     cases h5
     refine ⟨rfl,bb,?_,?_⟩
     ·rw [cO]
      have:=m.cell h4
      simpa using this
     ·rw [hg]
      simp [rF]
    have hbyte:∀ k,k≤n→kB g k=(List.range k).map fun i=>rF (g i):=by
     intro k hk
     induction k with
     | zero=>rfl
     | succ k ih=>rw [kB,ih (by omega),List.range_succ]; simp
    refine ⟨(List.range n).map fun i=>((rF (g i)).toNat:Int),?_,?_⟩
    ·refine run_bytesToString w ad n c _ ?_
     have:=run_loadCells (P:=P) w ad n (fun i=>.int .u8 ((rF (g i)).toNat:Int)) (fun i hi=>by
      obtain ⟨_,bb,h1,h2⟩:=hz1 i hi
      rw [h2]
      exact h1)
     rw [this]
     simp
    ·rw [hbyte n (Nat.le_refl _)]
     simp
  obtain ⟨ns,h1,h2⟩:=key
  refine Does.val m (v:=.string (wB n g)) (.any (.cell (.pure (.str _) trivial))) ?_ id nn
  rw [run_convert_bytes_string w src dst e a n c hs he hd,h1]
  have:(ns.foldl (fun r n=>r.push (UInt8.ofNat n.toNat)) ByteArray.empty)=wB n g:=by
   have h3:=aEI ns ByteArray.empty
   rw [h2] at h3
   have h4:(ns.foldl (fun r n=>r.push (UInt8.ofNat n.toNat)) ByteArray.empty).data=(kB g n).toArray:=by
    apply Array.ext'
    rw [h3,show ByteArray.empty.data.toList=[] from rfl]
    simp
   calc _=(⟨(ns.foldl (fun r n=>r.push (UInt8.ofNat n.toNat)) ByteArray.empty).data⟩:ByteArray):=rfl
    _=_:=by rw [h4]; rfl
  rw [this]
  rfl
 | _=>exact (aC hh).elim
end
section
variable {P:Program} {F:Nat→FuncId} {B np:Nat} {w0 w w':World} {ext:List Nat} {σ0:Og} {G G':Gh} {hp:Nat→Option (Bool×List D)} {tk tk':Nat→Option (Nat×Nat)}
theorem eR {lo hi lo' hi' j:Nat} (h:(Nat.ble lo j&&Nat.blt j hi)=false) (h1:lo≤lo') (h2:hi'≤hi):(Nat.ble lo' j&&Nat.blt j hi')=false:=by
 have:=bC h
 cases hb:(Nat.ble lo' j&&Nat.blt j hi') with
 | false=>rfl
 | true =>
  obtain ⟨e1,e2⟩:=dV hb
  have e1:=Nat.le_of_ble_eq_true e1
  rw [Nat.blt_eq] at e2
  exact absurd ⟨by omega,by omega⟩ this
theorem dL {lo hi lo' hi':Nat} {d:D} (h:d.names1 lo hi=false) (h1:lo≤lo') (h2:hi'≤hi):d.names1 lo' hi'=false:=by
 cases d with
 | ptr j o=>exact eR h h1 h2
 | mref j=>exact eR h h1 h2
 | msl j z n=>exact eR h h1 h2
 | rptr j z n i o=>exact eR h h1 h2
 | oref j _ _=>exact eR h h1 h2
 | oagg j _ _ _=>exact eR h h1 h2
 | osl j _ _=>exact eR h h1 h2
 | kseq _ j _ _=>exact eR h h1 h2
 | mit j _ _ _ _ _=>exact eR h h1 h2
 | slice t z n g=>cases t with
  | own j=>exact eR h h1 h2
  | _=>rfl
 | _=>rfl
theorem cZ {lo hi lo' hi':Nat} {l:List D} (h:names lo hi l=false) (h1:lo≤lo') (h2:hi'≤hi):names lo' hi' l=false:=by
 induction l with
 | nil=>rfl
 | cons d l ih =>
  simp only [names] at h ⊢
  cases hd:d.names1 lo hi with
  | true=>rw [hd] at h; simp at h
  | false =>
   rw [hd] at h
   rw [dL hd h1 h2]
   exact ih (by simpa using h)
theorem eN {lo hi:Nat} {l:List D} (h:∀ j,j < l.length→(nth l j .dead).names1 lo hi=false):names lo hi l=false:=by
 induction l with
 | nil=>rfl
 | cons d l ih =>
  simp only [names]
  have h0:=h 0 (by simp)
  simp only [nth] at h0
  rw [h0]
  exact ih fun j hj=>h (j+1) (by simpa using hj)
theorem sK {lo hi lo' hi':Nat} {d:D} (h:d.names lo hi=false) (h1:lo≤lo') (h2:hi'≤hi):d.names lo' hi'=false:=by
 cases d with
 | agg l=>exact cZ h h1 h2
 | tup l=>exact cZ h h1 h2
 | ptr j o=>exact dL (d:=.ptr j o) h h1 h2
 | slice t z n g=>exact dL (d:=.slice t z n g) h h1 h2
 | mref j=>exact dL (d:=.mref j) h h1 h2
 | msl j z n=>exact dL (d:=.msl j z n) h h1 h2
 | rptr j z n i o=>exact dL (d:=.rptr j z n i o) h h1 h2
 | oref j a b=>exact dL (d:=.oref j a b) h h1 h2
 | oagg j a b c=>exact dL (d:=.oagg j a b c) h h1 h2
 | osl j a b=>exact dL (d:=.osl j a b) h h1 h2
 | kseq g j a b=>exact dL (d:=.kseq g j a b) h h1 h2
 | mit j a b c d e=>exact dL (d:=.mit j a b c d e) h h1 h2
 | _=>rfl
theorem nA {lo hi:Nat} {d:D} (h:d.names lo hi=false) (hs:aI d.cells=true):names lo hi d.cells=false:=by
 cases d with
 | agg l=>exact h
 | tup l=>simp [D.cells,aI] at hs
 | dead=>simp [D.cells,aI] at hs
 | mref j=>simp [D.cells,aI] at hs
 | msl j z n=>simp [D.cells,aI] at hs
 | rptr j z n i o=>simp [D.cells,aI] at hs
 | oref j a b=>simp [D.cells,aI] at hs
 | oagg j a b c=>simp [D.cells,aI] at hs
 | osl j a b=>simp [D.cells,aI] at hs
 | kseq g j a b=>simp [D.cells,aI] at hs
 | mit j a b c d e=>simp [D.cells,aI] at hs
 | ptr j o=>simp only [D.cells,names]; rw [show (D.ptr j o).names1 lo hi=false from h]; rfl
 | slice t z n g=>simp only [D.cells,names]; rw [show (D.slice t z n g).names1 lo hi=false from h]; rfl
 | _=>rfl
structure Free (hp:Nat→Option (Bool×List D)) (tk:Nat→Option (Nat×Nat)) (lo hi:Nat):Prop where
 hp:∀ id f cs,hp id=some (f,cs)→¬(lo≤id∧id < hi)∧names lo hi cs=false
 tk:∀ i e,tk i=some e→¬(lo≤i∧i < hi)
theorem Free.var {lo hi:Nat} (f:Free hp tk lo hi) {id:Nat} (h:lo≤id∧id < hi):hp id=none:=by
 cases hh:hp id with
 | none=>rfl
 | some e=>exact absurd h (f.hp id e.1 e.2 hh).1
theorem Free.tok {lo hi:Nat} (f:Free hp tk lo hi) {i:Nat} (h:lo≤i∧i < hi):tk i=none:=by
 cases hh:tk i with
 | none=>rfl
 | some e=>exact absurd h (f.tk i e hh)
theorem Mem.newVar (m:Mem F B np w0 ext σ0 G hp tk w) {id nn:Nat} (hn:0 < nn) (fr:Free hp tk id (id+nn)) (c:Array Value) (e:TypeId) (cs:List D) (hs:aI cs=true) (hc:c.size=cs.length)
  (hr:∀ j,j < cs.length→Rc F G tk (c.getD j undef) (nth cs j .dead)) (hcl:names id (id+1) cs=false) :
  ∃ G',Mem F B np w0 ext σ0 G' (bX hp [(id,false,cs)]) tk (w.alloc (.cells c e))∧Keeps id (id+nn) G G' tk tk∧G'.β id=w.heap.size∧G'.ρ=G.ρ:=by
 have m1:=m.newBlock c e (0,0) (fun _=>none) (fun _ _ h=>by cases h)
 have hle:=c8 m (fun _=>none)
 have hk:Keeps id (id+nn) G { σ:=aL G.σ w.heap.size (fun _=>none),β:=fun j=>if j=id then w.heap.size else G.β j,ρ:=G.ρ,η:=G.η,γ:=G.γ,φ:=G.φ } tk tk :=
  ⟨hle,fun j hj=>by simp only; rw [if_neg (by omega)],fun _ z m _ e=>⟨z,m,e,Nat.le_refl _,fun _=>rfl⟩,fun _ _ _ _ e=>e,fun _ x e=>⟨x.ob,e⟩⟩
 have hk1:Keeps id (id+1) G { σ:=aL G.σ w.heap.size (fun _=>none),β:=fun j=>if j=id then w.heap.size else G.β j,ρ:=G.ρ,η:=G.η,γ:=G.γ,φ:=G.φ } tk tk :=
  ⟨hle,fun j hj=>by simp only; rw [if_neg (by omega)],fun _ z m _ e=>⟨z,m,e,Nat.le_refl _,fun _=>rfl⟩,fun _ _ _ _ e=>e,fun _ x e=>⟨x.ob,e⟩⟩
 have m2:=m1.addVar id w.heap.size cs c e (heap_alloc_new w _) hs hc (fun j hj=>(hr j hj).keep hk1 (dQ hcl hj)) (fun o=>by simp [aL])
  (fun k hk=>by have:=m.own_lt (k:=k) (b:=w.heap.size) (by cases k <;> exact hk); omega) (.inl m.base) (fr.var ⟨Nat.le_refl _,by omega⟩)
  (fun id' f cs' h=>cZ (fr.hp id' f cs' h).2 (Nat.le_refl _) (by omega)) m.resv_new
 exact ⟨_,m2,hk,by simp,rfl⟩
theorem aIF (m:Mem F B np w0 ext σ0 G hp tk w) {x:Value} {d:D} (hx:Rd F G tk x d) {id nn:Nat} (hn:0 < nn) (fr:Free hp tk id (id+nn)) (hnm:d.names id (id+nn)=false) (t:TypeId) {v:D} {u:Upd}
  (hh:(aR .box id hp tk [d]).holds v u):Does F B np w0 ext σ0 G hp tk (((Instr.box t x).run P w).andThen fun v w=>.ok (.value v) w) id nn v u:=by
 simp only [aR] at hh
 cases hs:aI d.cells with
 | false=>rw [hs] at hh; exact (aC hh).elim
 | true =>
  rw [hs] at hh
  obtain ⟨rfl,rfl⟩:=aV hh
  obtain ⟨h1,h2⟩:=hx.cells hs
  obtain ⟨G',m',hk,hβ,_⟩:=m.newVar hn fr x.cells t d.cells hs h1 h2 (cZ (nA hnm hs) (Nat.le_refl _) (by omega))
  refine ⟨_,_,_,G',?_,.inl rfl,m',.any (.cell (.ptr id 0)),hk⟩
  rw [hβ]
  simp [Instr.box,newVar,newRow]
theorem Mem.nilTok (m:Mem F B np w0 ext σ0 G hp tk w) {i:Nat} (z:Nat) (fr:Free hp tk i (i+1)) :
  Mem F B np w0 ext σ0 { G with ρ:=fun j=>if j=i then .slice none 0 0 else G.ρ j } hp (cF tk [(i,z,0)]) w :=
 m.addTok i z 0 0 none (Nat.le_refl _) (fun h=>by omega) (fun id' f cs' h j hj ⟨z',m',g,he⟩=>by
  have:=dQ (fr.hp id' f cs' h).2 hj
  rw [he] at this
  exact absurd ⟨Nat.le_refl _,Nat.lt_succ_self _⟩ (bC this))
theorem aDX {l:List (Nat×Nat×Nat)} {j:Nat} (h:∀ p∈l,p.1≠j):cF tk l j=tk j:=by
 induction l generalizing tk with
 | nil=>rfl
 | cons p l ih =>
  obtain ⟨i,e⟩:=p
  simp only [cF]
  rw [ih (fun q hq=>h q (List.mem_cons_of_mem _ hq))]
  have:Nat.beq j i=false:=by
   cases hh:Nat.beq j i with
   | false=>rfl
   | true=>exact absurd (Nat.eq_of_beq_eq_true hh).symm (h (i,e) (by simp))
  rw [this]
  rfl
theorem aDF (σ:Sg) (t:Tag) (z:Nat) (g:Nat→List D):Rp σ (.slice none 0 0) (.slice t z 0 g) :=
 .slice none 0 0 t z g 0 0 (fun _ _=>undef) (Nat.le_refl _) (fun h=>absurd rfl h) (fun i hi=>by omega) (fun i j hi=>by omega) (fun i j hi=>by omega)
theorem aDS (m:Mem F B np w0 ext σ0 G hp tk w) {id nn:Nat} (hn:0 < nn) (fr:Free hp tk id (id+nn)) (z:Nat) {v:D} {u:Upd} (hh:(aR (.nilSl z) id hp tk []).holds v u) :
  Does F B np w0 ext σ0 G hp tk (.ok (.value (.slice none 0 0)) w) id nn v u:=by
 obtain ⟨rfl,rfl⟩:=aV hh
 have fr1:Free hp tk id (id+1):=⟨fun id' f cs' h=>⟨fun hh=>(fr.hp id' f cs' h).1 ⟨hh.1,by omega⟩,cZ (fr.hp id' f cs' h).2 (Nat.le_refl _) (by omega)⟩,fun i e h hh=>fr.tk i e h ⟨hh.1,by omega⟩⟩
 refine ⟨w,_,_,_,rfl,.inl rfl,m.nilTok z fr1,.any (.cell (.pure (aDF _ _ _ _) ?_)),⟨SgLe.refl _,fun _ _=>rfl,?_,fun _ _ _ _ e=>e,fun _ x e=>⟨x.ob,e⟩⟩⟩
 ·intro z' m' h
  rcases aN h with ⟨_,h1⟩ | ⟨h1,_⟩
  ·cases h1
   exact ⟨Nat.le_refl _,fun _=>by simp⟩
  ·exact absurd rfl h1
 ·intro j z' m' hj h
  rcases aN h with ⟨rfl,_⟩ | ⟨h1,h2⟩
  ·exact absurd ⟨Nat.le_refl _,by omega⟩ hj
  ·exact ⟨z',m',h2,Nat.le_refl _,fun _=>by simp only; rw [if_neg h1]⟩
end
section
variable {P:Program} {F:Nat→FuncId} {B np:Nat} {w0 w w':World} {ext:List Nat} {σ0:Og} {G G':Gh} {hp:Nat→Option (Bool×List D)} {tk tk':Nat→Option (Nat×Nat)}
theorem Free.sub {lo hi lo' hi':Nat} (f:Free hp tk lo hi) (h1:lo≤lo') (h2:hi'≤hi):Free hp tk lo' hi' :=
 ⟨fun id g cs h=>⟨fun hh=>(f.hp id g cs h).1 ⟨by omega,by omega⟩,cZ (f.hp id g cs h).2 h1 h2⟩,fun i e h hh=>f.tk i e h ⟨by omega,by omega⟩⟩
theorem aCY {v:Value} {d:D} (h:iD v=some d):(v=.slice none 0 0∧d=.slice .full 0 0 d8)∨((∀ t z n g,d≠.slice t z n g)∧d.names1 0 0=false∧aI [d]=true):=by
 unfold iD at h
 split at h <;> cases h
 ·exact .inr ⟨fun _ _ _ _=>by simp,rfl,rfl⟩
 ·exact .inr ⟨fun _ _ _ _=>by simp,rfl,rfl⟩
 ·exact .inr ⟨fun _ _ _ _=>by simp,rfl,rfl⟩
 ·exact .inr ⟨fun _ _ _ _=>by simp,rfl,rfl⟩
 ·exact .inl ⟨rfl,rfl⟩
 ·exact .inr ⟨fun _ _ _ _=>by simp,rfl,rfl⟩
theorem aFT {d:D} (h:∀ t z n g,d≠.slice t z n g) (l:List D) (zs:List Nat):fS (d::l) zs=d::fS l (zs.drop 1):=by
 cases d <;> first | rfl | (exact absurd rfl (h _ _ _ _))
theorem aEH {d:D} (h:∀ t z n g,d≠.slice t z n g) (l:List D) (i:Nat):cJ (d::l) i=d::cJ l (i+1):=by
 cases d <;> first | rfl | (exact absurd rfl (h _ _ _ _))
theorem zK {d:D} (h:∀ t z n g,d≠.slice t z n g) (l:List D) (i:Nat):aW (d::l) i=aW l (i+1):=by
 cases d <;> first | rfl | (exact absurd rfl (h _ _ _ _))
theorem nY:∀ (l:List Value) (ds:List D) (zs:List Nat) (i:Nat) (G:Gh) (tk:Nat→Option (Nat×Nat)),cW l=some ds→Mem F B np w0 ext σ0 G hp tk w→Free hp tk i (i+ds.length) →
  ∃ ρ',Mem F B np w0 ext σ0 { G with ρ:=ρ' } hp (cF tk (aW (fS ds zs) i)) w∧(∀ j,¬(i≤j∧j < i+ds.length)→ρ' j=G.ρ j∧cF tk (aW (fS ds zs) i) j=tk j) ∧
   (∀ j z m,i≤j∧j < i+ds.length→cF tk (aW (fS ds zs) i) j=some (z,m)→m=0∧ρ' j=.slice none 0 0) ∧
   (cJ (fS ds zs) i).length=ds.length∧aI (cJ (fS ds zs) i)=true ∧
   (∀ j,j < ds.length→(∃ z,l.getD j undef=.slice none 0 0∧nth (cJ (fS ds zs) i) j .dead=.slice (.own (i+j)) z 0 d8)∨(nth (cJ (fS ds zs) i) j .dead=nth ds j .dead∧(nth ds j .dead).names1 0 0=false∧∀ k,(nth ds j .dead).names1 k (k+1)=false))
 | [],ds,zs,i,G,tk,h,m,fr=>by
  cases h
  exact ⟨G.ρ,m,fun j _=>⟨rfl,rfl⟩,fun j z mm hj hz=>by simp at hj; omega,rfl,rfl,fun j hj=>by simp at hj⟩
 | v::l,ds,zs,i,G,tk,h,m,fr=>by
  simp only [cW] at h
  split at h
  ·rename_i d ds' h1 h2
   cases h
   simp only [List.length_cons] at fr
   rcases aCY h1 with ⟨rfl,rfl⟩ | ⟨hns,hnm,hsol⟩
   ·cases zs with
    | nil =>
     obtain ⟨ρ',e1,e2,e3,e4,e5,e6⟩:=nY l ds' [] (i+1) G tk h2 m (fr.sub (by omega) (by omega))
     have q1:aW (fS (.slice .full 0 0 d8::ds') []) i=aW (fS ds' []) (i+1):=rfl
     have q2:cJ (fS (.slice .full 0 0 d8::ds') []) i=.slice .full 0 0 d8::cJ (fS ds' []) (i+1):=rfl
     rw [q1,q2]
     refine ⟨ρ',e1,fun j hj=>e2 j (by simp at hj; omega),fun j z mm hj hz=>?_,by simp [e4],by simp [aI,e5],fun j hj=>?_⟩
     ·by_cases hji:j=i
      ·subst hji
       have:=(e2 j (by omega)).2
       rw [this,fr.tok ⟨Nat.le_refl _,by omega⟩] at hz
       cases hz
      ·exact e3 j z mm (by simp at hj; omega) hz
     ·cases j with
      | zero=>exact .inr ⟨rfl,rfl,fun _=>rfl⟩
      | succ j =>
       have:=e6 j (by simpa using hj)
       rw [show i+(j+1)=i+1+j from by omega]
       exact this
    | cons z zs =>
     have m1:=m.nilTok z (fr.sub (Nat.le_refl _) (by omega):Free hp tk i (i+1))
     have fr1:Free hp (cF tk [(i,z,0)]) (i+1) (i+1+ds'.length):=by
      refine ⟨(fr.sub (by omega) (by omega)).hp,fun j e h hh=>?_⟩
      rcases aN h with ⟨rfl,_⟩ | ⟨_,h3⟩
      ·omega
      ·exact fr.tk j e h3 ⟨by omega,by omega⟩
     obtain ⟨ρ',e1,e2,e3,e4,e5,e6⟩:=nY l ds' zs (i+1) _ _ h2 m1 fr1
     have q1:cF tk (aW (fS (.slice .full 0 0 d8::ds') (z::zs)) i)=cF (cF tk [(i,z,0)]) (aW (fS ds' zs) (i+1)):=rfl
     have q2:cJ (fS (.slice .full 0 0 d8::ds') (z::zs)) i=.slice (.own i) z 0 d8::cJ (fS ds' zs) (i+1):=rfl
     rw [q1,q2]
     refine ⟨ρ',e1,fun j hj=>?_,fun j z' mm hj hz=>?_,by simp [e4],by simp [aI,e5],fun j hj=>?_⟩
     ·obtain ⟨e7,e8⟩:=e2 j (by simp at hj; omega)
      have hji:j≠i:=by simp at hj; omega
      refine ⟨by rw [e7]; simp only; rw [if_neg hji],?_⟩
      rw [e8]
      exact aDX (fun p hp=>by simp at hp; subst hp; exact fun h=>hji h.symm)
     ·by_cases hji:j=i
      ·subst hji
       obtain ⟨e7,e8⟩:=e2 j (by omega)
       rw [e8] at hz
       rcases aN hz with ⟨_,h3⟩ | ⟨h3,_⟩
       ·cases h3
        exact ⟨rfl,by rw [e7]; simp⟩
       ·exact absurd rfl h3
      ·exact e3 j z' mm (by simp at hj; omega) hz
     ·cases j with
      | zero=>exact .inl ⟨z,rfl,rfl⟩
      | succ j =>
       have:=e6 j (by simpa using hj)
       rw [show i+(j+1)=i+1+j from by omega]
       exact this
   ·obtain ⟨ρ',e1,e2,e3,e4,e5,e6⟩:=nY l ds' (zs.drop 1) (i+1) G tk h2 m (fr.sub (by omega) (by omega))
    rw [aFT hns,zK hns,aEH hns]
    refine ⟨ρ',e1,fun j hj=>e2 j (by simp at hj; omega),fun j z mm hj hz=>?_,by rw [List.length_cons,e4,List.length_cons],?_,fun j hj=>?_⟩
    ·by_cases hji:j=i
     ·subst hji
      have:=(e2 j (by omega)).2
      rw [this,fr.tok ⟨Nat.le_refl _,by omega⟩] at hz
      cases hz
     ·exact e3 j z mm (by simp at hj; omega) hz
    ·cases d <;> first | exact e5 | simp [aI] at hsol
    ·cases j with
     | zero =>
      refine .inr ⟨rfl,hnm,fun k=>?_⟩
      simp only [nth]
      cases d <;> first | rfl | (exact absurd rfl (hns _ _ _ _)) | (simp [aI] at hsol; done) | skip
      ·unfold iD at h1
       split at h1 <;> cases h1
     | succ j =>
      have:=e6 j (by simpa using hj)
      rw [show i+(j+1)=i+1+j from by omega]
      exact this
  ·cases h
theorem eI {l:List Value} {ds:List D} (h:cW l=some ds):l.length=ds.length:=(dJ (F:=fun _=>0) (G:=⟨fun _ _=>none,fun _=>0,fun _=>undef,fun _ _=>none,fun _=>none,fun _=>none⟩) (tk:=fun _=>none) h).1
theorem aD6 (m:Mem F B np w0 ext σ0 G hp tk w) {id nn:Nat} (t:TypeId) {i:TypeInfo} {z:Value} (hi:P.info? t=some i) (hz:i.zero=some z) {ds:List D} (hds:cW z.cells.toList=some ds) (zs:List Nat)
  (hn:nn=1+(fS ds zs).length) (hlen:(fS ds zs).length=ds.length) (fr:Free hp tk id (id+nn)) {v:D} {u:Upd} (hh:(aR (.alloc (fS ds zs)) id hp tk []).holds v u) :
  Does F B np w0 ext σ0 G hp tk (((Instr.alloc t true (.tuple #[])).run P w).andThen fun v w=>.ok (.value v) w) id nn v u:=by
 simp only [aR] at hh
 cases hs:aI (fS ds zs) with
 | false=>rw [hs] at hh; exact (aC hh).elim
 | true =>
  rw [hs] at hh
  obtain ⟨rfl,rfl⟩:=aV hh
  have hl:=eI hds
  obtain ⟨ρ',e1,e2,e3,e4,e5,e6⟩:=nY z.cells.toList ds zs (id+1) G tk hds m (fr.sub (by omega) (by omega))
  have fr1:Free hp (cF tk (aW (fS ds zs) (id+1))) id (id+1):=by
   refine ⟨(fr.sub (Nat.le_refl _) (by omega)).hp,fun j e h hh=>?_⟩
   rw [(e2 j (by omega)).2] at h
   exact fr.tk j e h ⟨hh.1,by omega⟩
  have hcs:=(dJ (F:=F) (G:={ G with ρ:=ρ' }) (tk:=cF tk (aW (fS ds zs) (id+1))) hds).2
  obtain ⟨G',m',hk,hβ,hρ⟩:=e1.newVar (id:=id) (nn:=1) (by omega) fr1 z.cells t (cJ (fS ds zs) (id+1)) e5 (by rw [e4,← hl]; simp) (fun j hj=>by
   rw [e4] at hj
   rcases e6 j hj with ⟨zz,h1,h2⟩ | ⟨h1,_,_⟩
   ·rw [h2,bI,h1]
    refine .pure (aDF _ _ _ _) fun z' m' h=>?_
    obtain ⟨h3,h4⟩:=e3 (id+1+j) z' m' ⟨by omega,by omega⟩ h
    exact ⟨Nat.zero_le _,fun _=>h4.symm⟩
   ·rw [h1,bI]
    exact hcs j hj) (eN fun j hj=>by
   rw [e4] at hj
   rcases e6 j hj with ⟨zz,_,h2⟩ | ⟨h1,_,h3⟩
   ·rw [h2]
    simp only [D.names1]
    cases hb:(Nat.ble id (id+1+j)&&Nat.blt (id+1+j) (id+1)) with
    | false=>rfl
    | true =>
     have:=(dV hb).2
     rw [Nat.blt_eq] at this
     omega
   ·rw [h1]
    exact h3 id)
  refine ⟨_,.value (.pointer (some ⟨w.heap.size,0,none⟩)),_,G',?_,.inl rfl,m',?_,?_⟩
  ·simp [Instr.alloc,zeroValue,typeInfo,program,Sem.run,hi,hz,newVar,newRow]
  ·rw [← hβ]
   exact .any (.cell (.ptr id 0))
  ·refine ⟨hk.σ,fun j hj=>hk.β j (by omega),fun j z' m' hj h=>?_,fun i n v hi h=>hk.row i n v (by omega) h,hk.obj⟩
   obtain ⟨h1,h2⟩:=e2 j (by omega)
   rw [h2] at h
   exact ⟨z',m',h,Nat.le_refl _,fun _=>by rw [hρ]; exact h1⟩
end
end Go.Abs
