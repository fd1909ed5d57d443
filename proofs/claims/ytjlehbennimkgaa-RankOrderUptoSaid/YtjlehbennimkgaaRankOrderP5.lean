/- Functions, and what the code asks of them: PModel. -/
import Derived.KernelRfl
import Derived.Test.YtjlehbennimkgaaRankOrderP3
import Derived.Test.YtjlehbennimkgaaRankOrderP4
set_option linter.unusedVariables false
set_option linter.unusedSimpArgs false
/- Names,labels,amounts,machines,queues,tasks: what can be,and their bytes. -/
namespace Go.Abs
open Go

abbrev dR:=Int×Int×Int
abbrev gX:=ByteArray×ByteArray
abbrev aA3:=ByteArray×dR×List gX
abbrev cE:=ByteArray×ByteArray×Int×dR×List gX×ByteArray×ByteArray×Int
abbrev dT:=cE×Int×ByteArray×Int

def slt (a b:ByteArray):Bool:=Op.bytesLess a.toList b.toList
def cK (s:ByteArray):Bool:=decide (1≤s.size∧s.size≤16)&&(nth s.data.toList 0 0 != 45)&&s.data.toList.all ltr
def okN (n:Int):Bool:=decide (0≤n∧n≤1048576)
def bE (r:dR):Bool:=okN r.1&&okN r.2.1&&okN r.2.2
def rV (l:List gX) (i:Nat):Bool:=cK (l.getD i default).1&&cK (l.getD i default).2&&(i==0 || slt (l.getD (i - 1) default).1 (l.getD i default).1)
def cF (l:List gX):Bool:=decide (l.length≤4)&&(List.range l.length).all (rV l)
def jZ (n:aA3):Bool:=cK n.1&&bE n.2.1&&cF n.2.2
def eV (s:ByteArray):Bool:=s.size==0 || cK s
def wX (g:ByteArray) (n:Int):Bool:=if g.size=0 then n==0 else decide (2≤n∧n≤4)
def dM (t:cE):Bool:=cK t.1&&cK t.2.1&&decide (0≤t.2.2.1∧t.2.2.1≤9)&&bE t.2.2.2.1&&cF t.2.2.2.2.1&&eV t.2.2.2.2.2.1&&eV t.2.2.2.2.2.2.1&&wX t.2.2.2.2.2.2.1 t.2.2.2.2.2.2.2

def bQ (s:ByteArray):Prop:=s.size≤1073741824
def gI (l:List gX):Prop:=∀ x∈l,x.1.size≤1073741824∧x.2.size≤1073741824
def iC (n:aA3):Prop:=bQ n.1∧gI n.2.2
def kL (t:cE):Prop:=bQ t.1∧bQ t.2.1∧gI t.2.2.2.2.1∧bQ t.2.2.2.2.2.1∧bQ t.2.2.2.2.2.2.1

end Go.Abs

/- Names,labels,bytes of tasks: plain facts. -/
namespace Go.Abs
open Go

theorem jW:∀ x:List UInt8,Op.bytesLess x x=false
 | []=>rfl
 | a::x=>by
  have h:(a < a)=False:=by simp
  simp [Op.bytesLess,jW x]

theorem pM:∀ x y:List UInt8,Op.bytesLess x y=true∨x=y∨Op.bytesLess y x=true
 | [],[]=>.inr (.inl rfl)
 | [],_::_=>.inl rfl
 | _::_,[]=>.inr (.inr rfl)
 | a::x,b::y=>by
  simp only [Op.bytesLess,Bool.or_eq_true,Bool.and_eq_true,decide_eq_true_eq,beq_iff_eq,List.cons.injEq]
  rcases Nat.lt_trichotomy a.toNat b.toNat with h | h | h
  ·exact .inl (.inl (UInt8.lt_iff_toNat_lt.2 h))
  ·have h:a=b:=UInt8.toNat_inj.1 h
   subst h
   rcases pM x y with h | h | h
   ·exact .inl (.inr ⟨rfl,h⟩)
   ·exact .inr (.inl ⟨rfl,h⟩)
   ·exact .inr (.inr (.inr ⟨rfl,h⟩))
  ·exact .inr (.inr (.inl (UInt8.lt_iff_toNat_lt.2 h)))

theorem lF:∀ {x y z:List UInt8},Op.bytesLess x y=true→Op.bytesLess y z=true→Op.bytesLess x z=true
 | [],[],_,h,_=>by cases h
 | [],_::_,[],_,h=>by cases h
 | [],_::_,_::_,_,_=>rfl
 | _::_,[],_,h,_=>by cases h
 | _::_,_::_,[],_,h=>by cases h
 | a::x,b::y,c::z,h,k=>by
  simp only [Op.bytesLess,Bool.or_eq_true,Bool.and_eq_true,decide_eq_true_eq,beq_iff_eq] at h k ⊢
  rcases h with h | ⟨rfl,h⟩ <;> rcases k with k | ⟨rfl,k⟩
  ·exact .inl (UInt8.lt_trans h k)
  ·exact .inl h
  ·exact .inl k
  ·exact .inr ⟨rfl,lF h k⟩

theorem aC0 {x y:List UInt8} (h:Op.bytesLess x y=true):Op.bytesLess y x=false:=by
 cases hh:Op.bytesLess y x with
 | false=>rfl
 | true=>rw [← jW x,lF h hh]

theorem xK {a b:ByteArray}:slt a b=true↔sLt a b:=Iff.rfl
theorem aDX {a b:ByteArray}:slt a b=false↔sLe b a:=by
 unfold slt sLe sLt
 constructor
 ·intro h
  rcases pM a.toList b.toList with h1 | h1 | h1
  ·rw [h] at h1; cases h1
  ·exact .inr (toList_inj.1 h1.symm)
  ·exact .inl h1
 ·rintro (h | rfl)
  ·exact aC0 h
  ·exact jW _

theorem gU {a:ByteArray}:a=ByteArray.empty↔a.size=0:=⟨fun h=>by subst h; rfl,fun h=>q6 (by
 have:=aAI a
 rw [h] at this
 rw [List.length_eq_zero_iff.1 this]; rfl)⟩

theorem nF {s:ByteArray}:cK s=true↔1≤s.size∧s.size≤16∧bAt s 0≠45∧∀ (i:Nat) (x:UInt8),s.data.toList[i]? = some x→ltr x=true:=by
 unfold cK
 have e:nth s.data.toList 0 0≠45↔bAt s 0≠45:=by
  unfold bAt
  have:nth s.data.toList (Int.toNat 0) 0=45↔(nth s.data.toList (Int.toNat 0) 0).toNat=45:=⟨fun h=>by rw [h]; rfl,fun h=>UInt8.toNat_inj.1 h⟩
  show nth s.data.toList (Int.toNat 0) 0≠45↔_
  rw [Ne,this]
  omega
 simp only [Bool.and_eq_true,decide_eq_true_eq,bne_iff_ne,List.all_eq_true,e,and_assoc]
 constructor
 ·rintro ⟨h1,h2,h3,h4⟩
  exact ⟨h1,h2,h3,fun i x hx=>h4 x (List.mem_of_getElem? hx)⟩
 ·rintro ⟨h1,h2,h3,h4⟩
  exact ⟨h1,h2,h3,fun x hx=>by
   obtain ⟨i,hi⟩:=List.getElem?_of_mem hx
   exact h4 i x hi⟩

theorem aEI {l:List UInt8}:qG l < 0↔∀ (i:Nat) (x:UInt8),l[i]? = some x→ltr x=true:=by
 unfold qG
 constructor
 ·intro h i x hx
  cases hf:l.findIdx? (fun x=>!ltr x) with
  | none =>
   have:=List.findIdx?_eq_none_iff.1 hf x (List.mem_of_getElem? hx)
   simpa using this
  | some j=>rw [hf] at h; simp only at h; omega
 ·intro h
  rw [List.findIdx?_eq_none_iff.2 fun x hx=>by
   obtain ⟨i,hi⟩:=List.getElem?_of_mem hx
   simp [h i x hi]]
  decide

theorem aCV {s:ByteArray}:oO s=false↔∀ (i:Nat) (x:UInt8),s.data.toList[i]? = some x→ltr x=true:=by
 unfold oO
 rw [decide_eq_false_iff_not,← aEI]
 omega

theorem sN {α:Type} [Inhabited α] (l:List α) (i:Int):at_ l i=l.getD i.toNat default:=rfl

theorem mD {l:List gX}:cF l=true↔l.length≤4∧∀ i,i < l.length→rV l i=true:=by
 unfold cF
 simp only [Bool.and_eq_true,decide_eq_true_eq,List.all_eq_true,List.mem_range]

theorem pT {α:Type} [Inhabited α] {l:List α} {i:Nat} (h:i < l.length):l.getD i default∈l:=by
 rw [List.getD_eq_getElem?_getD,List.getElem?_eq_getElem h]
 exact List.getElem_mem h

theorem aIX {α:Type} [Inhabited α] {l:List α} {i:Int} (h0:0≤i) (h:i < (l.length:Int)):at_ l i∈l:=pT (by omega)

theorem jK {r:dR}:bE r=true↔(0≤r.1∧r.1≤1048576)∧(0≤r.2.1∧r.2.1≤1048576)∧(0≤r.2.2∧r.2.2≤1048576):=by
 unfold bE okN
 simp only [Bool.and_eq_true,decide_eq_true_eq,and_assoc]

theorem vQ {t:cE}:dM t=true↔cK t.1=true∧cK t.2.1=true∧(0≤t.2.2.1∧t.2.2.1≤9)∧bE t.2.2.2.1=true∧cF t.2.2.2.2.1=true∧eV t.2.2.2.2.2.1=true∧eV t.2.2.2.2.2.2.1=true∧wX t.2.2.2.2.2.2.1 t.2.2.2.2.2.2.2=true:=by
 unfold dM
 simp only [Bool.and_eq_true,decide_eq_true_eq,and_assoc]

theorem qZ {g:ByteArray} {n:Int}:wX g n=true↔(g.size=0∧n=0)∨(g.size≠0∧2≤n∧n≤4):=by
 unfold wX
 split
 ·rename_i h; simp [h]
 ·rename_i h; simp [h]
end Go.Abs

-- interregnum/ident.Name
namespace Go.Abs
open Go
def f48.args (a:ByteArray):List D:=[.str a]
def f48.blks (a:ByteArray):List (List D):=[]
def f48.res (a:ByteArray):List D:=[.bool (cK a)]
def f48.blks' (a:ByteArray):List (List D):=[]
def f48.C:aN:=FnC f48.args f48.blks (fun a=>bQ a) f48.res f48.blks'
end Go.Abs

/- interregnum/ident.Name -/
namespace Go.Abs
open Go
set_option linter.unusedVariables false
def f48.kills (a:ByteArray):List Hint:=[]
def f48.cuts (a:ByteArray):List (Nat×Σ β:Type,β→Tm):=[]
def f48.af (a:ByteArray):AF:=AF.mk (.seq (.region [⟨(some 2),0,.move,[.c (.bool false)],none⟩])
 (.seq (.region [oT 3 1 .move [0],
 ⟨(some 4),2,(.bin .neq),[.t 3,.c (.str ByteArray.empty)],none⟩,
 oT 5 3 .move [4],
 oG 6 4 .move [0] 5 true,
 oG 7 5 (.len true) [6] 5 true,
 ⟨(some 8),6,(.bin .leq),[.t 7,.c (.int .i64 (16))],(some (5,true))⟩,
 ⟨(some 9),7,.pick,[.t 5,.t 8,.c (.bool false)],none⟩,
 oT 10 8 .move [9],
 oG 11 9 .move [0] 10 true,
 ⟨(some 12),10,.indexStr,[.t 11,.c (.int .i64 (0))],(some (10,true))⟩,
 ⟨(some 13),11,(.bin .neq),[.t 12,.c (.int .u8 (45))],(some (10,true))⟩,
 ⟨(some 14),12,.pick,[.t 10,.t 13,.c (.bool false)],none⟩,
 oT 15 13 .move [14],
 oG 16 14 .move [0] 15 true,
 ⟨(some 17),15,(.call false 66),[.t 16,.c (.fn 67 [])],(some (15,true))⟩,
 oG 18 19 (.un .not) [17] 15 true,
 ⟨(some 19),20,.pick,[.t 15,.t 18,.c (.bool false)],none⟩,
 oT 2 21 .move [19]])
 (.ret)))
 [.tmp 2] 0 19
def f48.env:Env:=[(66,f66.C)]
def f48.tree (a:ByteArray):Prop:=Br (!(a.toList==ByteArray.empty.toList)) (Br (decide ((a.size:Int)≤(16:Int))) (Br (decide ((0:Int)≤(0:Int))&&decide ((0:Int) < (a.size:Int))) (Br ((bAt a (0:Int)) != (45:Int)) (∃ c8:ByteArray,(a=c8)∧(DEqs [] [])∧(fB c8)∧((!(oO c8))=(cK a))∧True) ((false=(cK a))∧True)) False) ((false=(cK a))∧True)) ((false=(cK a))∧True)
def f48.vc (a:ByteArray):Prop:=((¬(a=ByteArray.empty)→(((a.size:Int)≤(16:Int)→((0:Int) < (a.size:Int)∧((¬(bAt a (0:Int))=(45:Int)→(fB a∧((!(oO a))=cK a)))∧(¬(¬(bAt a (0:Int))=(45:Int))→(false=cK a)))))∧(¬((a.size:Int)≤(16:Int))→(false=cK a))))∧(¬(¬(a=ByteArray.empty))→(false=cK a)))
set_option maxRecDepth 100000 in
set_option maxHeartbeats 2000000 in
theorem f48.of (a:ByteArray) (h:f48.vc a):f48.tree a:=br h (Cnd.not Cnd.seq) (fun h1 k19=>br k19 Cnd.dec (fun h3 k16=>chk k16.2 Cnd.ix ⟨(by decide),k16.1⟩ (fun h5 k14=>br k14 Cnd.ne (fun h6 k12=>⟨a,⟨rfl,⟨(DEqs.refl _),⟨k12.1,⟨k12.2,trivial⟩⟩⟩⟩⟩) (fun h7 k13=>⟨k13,trivial⟩))) (fun h4 k17=>⟨k17,trivial⟩)) (fun h2 k20=>⟨k20,trivial⟩)
theorem f48.eq (a:ByteArray):(f48.af a).gives f48.env (f48.args a) (f48.blks a) (f48.res a) (f48.blks' a)=f48.tree a:=by kernel_rfl
end Go.Abs

-- interregnum/interregnumref04.Name
namespace Go.Abs
open Go
end Go.Abs

/- interregnum/interregnumref04.Name -/
namespace Go.Abs
open Go
set_option linter.unusedVariables false
end Go.Abs

-- interregnum/ident.Labels
namespace Go.Abs
open Go
def f50.ent (K:(List (aJ))→Prop) (t:List (aJ)):Prop:=∃ c:List (aJ),SlQ t.length c.length (gl aI t) (gl aI c) (K c)
theorem f50.ei {K:(List (aJ))→Prop} {t:List (aJ)} (h:K t):f50.ent K t:=⟨t,slQ (Rds.self (enc:=aI)) (h)⟩
def f50.args (a:List (aJ)):List D:=[.slice .ro 2 a.length (gl aI a)]
def f50.blks (a:List (aJ)):List (List D):=[]
def f50.res (a:List (aJ)):List D:=[.bool (cF a)]
def f50.blks' (a:List (aJ)):List (List D):=[]
def f50.C:aN:=FnC f50.args f50.blks (fun a=>gI a) f50.res f50.blks'
end Go.Abs

/- interregnum/ident.Labels -/
namespace Go.Abs
open Go
set_option linter.unusedVariables false
def f50.S0 (a:List (aJ)) (x:ByteArray×Int):Tm:=⟨[.dead,.dead,.dead,.str x.1,.dead,.dead,.dead,.dead,.dead,.slice .ro 2 a.length (gl aI a),.int .i64 (a.length:Int),.int .i64 x.2,.dead,.dead,.dead,.dead,.dead,.dead,.dead,.dead,.dead,.dead,.dead,.dead,.dead,.dead,.dead,.dead,.dead,.dead,.dead,.dead,.dead,.dead,.dead,.dead,.dead,.dead,.dead],[],[]⟩
def f50.kills (a:List (aJ)):List Hint:=[.tell (ByteArray×Int) (f50.S0 a)]
def f50.cuts (a:List (aJ)):List (Nat×Σ β:Type,β→Tm):=[]
def f50.af (a:List (aJ)):AF:=AF.mk (.seq (.region [⟨(some 2),0,.move,[.c (.bool false)],none⟩])
 (.seq (.seq (.region [oT 6 1 .move [0],
 oT 7 2 (.len false) [6],
 ⟨(some 8),3,(.bin .gtr),[.t 7,.c (.int .i64 (4))],none⟩])
 (.cond (.t 8) (.seq (.region [⟨(some 2),4,.move,[.c (.bool false)],none⟩])
 (.ret)) (.skip)))
 (.seq (.region [⟨(some 3),5,.move,[.c (.str ByteArray.empty)],none⟩])
 (.seq (.seq (.region [oT 9 6 .move [0],
 oT 10 7 (.len false) [9],
 ⟨(some 11),8,.move,[.c (.int .i64 (0))],none⟩])
 (.block 0 (.loopT (ByteArray×Int) (f50.S0 a) 9 50 (.seq (.region [oT 12 9 (.bin .lss) [11,10]])
 (.seq (.cond (.t 12) (.skip) (.exit 0))
 (.seq (.block 1 (.seq (.region [oT 13 10 .move [11],
 oT 14 11 (.indexAddr 2 none) [9,11],
 oT 15 12 (.load true 2) [14],
 oT 5 13 (.alloc [.str ByteArray.empty,.str ByteArray.empty]) [],
 oT 4 16 .move [13],
 ⟨none,17,(.store 2),[.t 5,.t 15],none⟩])
 (.seq (.seq (.region [oT 16 18 (.fieldAddr 0) [5],
 oT 17 19 (.load false 1) [16],
 oT 18 20 (.call false 48) [17],
 oT 19 24 (.un .not) [18],
 oT 20 25 .move [19],
 oG 21 26 (.fieldAddr 1) [5] 20 false,
 oG 22 27 (.load false 1) [21] 20 false,
 oG 23 28 (.call false 48) [22] 20 false,
 oG 24 32 (.un .not) [23] 20 false,
 ⟨(some 25),33,.pick,[.t 20,.c (.bool true),.t 24],none⟩,
 oT 26 34 .move [25],
 oG 27 35 .move [4] 26 false,
 ⟨(some 28),36,(.bin .gtr),[.t 27,.c (.int .i64 (0))],(some (26,false))⟩,
 oG 29 37 .move [28] 26 false,
 oG 30 38 (.fieldAddr 0) [5] 29 true,
 oG 31 39 (.load false 1) [30] 29 true,
 oG 32 40 .move [3] 29 true,
 oG 33 41 (.bin .leq) [31,32] 29 true,
 ⟨(some 34),42,.pick,[.t 29,.t 33,.c (.bool false)],(some (26,false))⟩,
 ⟨(some 35),43,.pick,[.t 26,.c (.bool true),.t 34],none⟩])
 (.cond (.t 35) (.seq (.region [⟨(some 2),44,.move,[.c (.bool false)],none⟩])
 (.ret)) (.skip)))
 (.region [oT 36 45 (.fieldAddr 0) [5],
 oT 37 46 (.load false 1) [36],
 oT 3 47 .move [37]]))))
 (.region [⟨(some 38),48,(.bin .add),[.t 11,.c (.int .i64 (1))],none⟩,
 oT 11 49 .move [38]])))))))
 (.seq (.region [⟨(some 2),50,.move,[.c (.bool true)],none⟩])
 (.ret))))))
 [.tmp 2] 0 38
def f50.env:Env:=[(48,f48.C)]
def f50.tree (a:List (aJ)):Prop:=Br (decide ((4:Int) < (a.length:Int))) ((false=(cF a))∧True) (∃ (I5:(ByteArray×Int)→Prop) (μ6:(ByteArray×Int)→Nat),(∃ x4:ByteArray×Int,(ByteArray.empty=x4.1)∧SlS aI a (((a.length:Int)=(a.length:Int))∧((0:Int)=x4.2)∧I5 x4))∧∀ y7:ByteArray×Int,I5 y7→(Br (decide (y7.2 < (a.length:Int))) (Br (decide ((0:Int)≤y7.2)&&decide (y7.2 < (a.length:Int))) (∃ c11:ByteArray,(((at_ a y7.2).1)=c11)∧(bQ c11)∧Br (!(cK c11)) ((false=(cF a))∧True) (∃ c15:ByteArray,(((at_ a y7.2).2)=c15)∧(bQ c15)∧Br (!(cK c15)) ((false=(cF a))∧True) (Br (decide ((0:Int) < y7.2)) (Br (Op.bytesLess ((at_ a y7.2).1).toList y7.1.toList || ((at_ a y7.2).1).toList==y7.1.toList) ((false=(cF a))∧True) (Let (IntKind.i64.wrap (y7.2+(1:Int))) (fun v24:Int=>∃ x25:ByteArray×Int,(((at_ a y7.2).1)=x25.1)∧SlS aI a (((a.length:Int)=(a.length:Int))∧(v24=x25.2)∧I5 x25∧μ6 x25 < μ6 y7)))) (Let (IntKind.i64.wrap (y7.2+(1:Int))) (fun v32:Int=>∃ x33:ByteArray×Int,(((at_ a y7.2).1)=x33.1)∧SlS aI a (((a.length:Int)=(a.length:Int))∧(v32=x33.2)∧I5 x33∧μ6 x33 < μ6 y7)))))) False) ((true=(cF a))∧True)))
def f50.vc (a:List (aJ)):Prop:=(((4:Int) < (a.length:Int)→(false=cF a))∧(¬((4:Int) < (a.length:Int))→(∃ (I5:(ByteArray×Int)→Prop) (μ6:(ByteArray×Int)→Nat),I5 (ByteArray.empty,(0:Int))∧∀ y7:ByteArray×Int,I5 y7→((y7.2 < (a.length:Int)→((0:Int)≤y7.2∧y7.2 < (a.length:Int)∧(bQ ((at_ a y7.2).1)∧((¬((cK ((at_ a y7.2).1))=true)→(false=cF a))∧(¬(¬((cK ((at_ a y7.2).1))=true))→(bQ ((at_ a y7.2).2)∧((¬((cK ((at_ a y7.2).2))=true)→(false=cF a))∧(¬(¬((cK ((at_ a y7.2).2))=true))→(((0:Int) < y7.2→((sLe ((at_ a y7.2).1) y7.1→(false=cF a))∧(¬(sLe ((at_ a y7.2).1) y7.1)→(-9223372036854775808≤(y7.2+(1:Int))∧(y7.2+(1:Int))≤9223372036854775807∧(I5 ((at_ a y7.2).1,(y7.2+(1:Int)))∧μ6 ((at_ a y7.2).1,(y7.2+(1:Int))) < μ6 y7)))))∧(¬((0:Int) < y7.2)→(-9223372036854775808≤(y7.2+(1:Int))∧(y7.2+(1:Int))≤9223372036854775807∧(I5 ((at_ a y7.2).1,(y7.2+(1:Int)))∧μ6 ((at_ a y7.2).1,(y7.2+(1:Int))) < μ6 y7))))))))))))∧(¬(y7.2 < (a.length:Int))→(true=cF a))))))
set_option maxRecDepth 100000 in
set_option maxHeartbeats 2000000 in
theorem f50.of (a:List (aJ)) (h:f50.vc a):f50.tree a:=br h Cnd.dec (fun h1 k53=>⟨k53,trivial⟩) (fun h2 k54=>Exists.elim k54 (fun I5 h50_=>Exists.elim h50_ (fun μ6 h50=>⟨I5,μ6,⟨(ByteArray.empty,(0:Int)),⟨rfl,SlS.mk  (⟨rfl,⟨rfl,h50.1⟩⟩)⟩⟩,fun y7 h52=>br (h50.2 y7 h52) Cnd.dec (fun h8 k48=>chk k48.2.2 Cnd.ix ⟨k48.1,k48.2.1⟩ (fun h10 k46=>⟨(at_ a y7.2).1,⟨rfl,⟨k46.1,br k46.2 (Cnd.not Cnd.b) (fun h12 k43=>⟨k43,trivial⟩) (fun h13 k44=>⟨(at_ a y7.2).2,⟨rfl,⟨k44.1,br k44.2 (Cnd.not Cnd.b) (fun h16 k40=>⟨k40,trivial⟩) (fun h17 k41=>br k41 Cnd.dec (fun h19 k38=>br k38 Cnd.sle (fun h21 k30=>⟨k30,trivial⟩) (fun h22 k31=>wrapK.i64 k31 (fun h27 h28 k29=>⟨((at_ a y7.2).1,(y7.2+(1:Int))),⟨rfl,SlS.mk  (⟨rfl,⟨rfl,k29⟩⟩)⟩⟩))) (fun h20 k39=>wrapK.i64 k39 (fun h35 h36 k37=>⟨((at_ a y7.2).1,(y7.2+(1:Int))),⟨rfl,SlS.mk  (⟨rfl,⟨rfl,k37⟩⟩)⟩⟩)))⟩⟩⟩)⟩⟩⟩)) (fun h9 k49=>⟨k49,trivial⟩)⟩)))
theorem f50.eq (a:List (aJ)):(f50.af a).gives f50.env (f50.args a) (f50.blks a) (f50.res a) (f50.blks' a)=f50.tree a:=by kernel_rfl
end Go.Abs

-- interregnum/interregnumref04.Labels
namespace Go.Abs
open Go
end Go.Abs

/- interregnum/interregnumref04.Labels -/
namespace Go.Abs
open Go
set_option linter.unusedVariables false
end Go.Abs

-- interregnum/res.Right
namespace Go.Abs
open Go
def f49.args (a:aD):List D:=[.agg [.int .i64 a.1,.int .i64 a.2.1,.int .i64 a.2.2]]
def f49.blks (a:aD):List (List D):=[]
def f49.res (a:aD):List D:=[.bool (bE a)]
def f49.blks' (a:aD):List (List D):=[]
def f49.C:aN:=FnC f49.args f49.blks (fun _=>True) f49.res f49.blks'
end Go.Abs

/- interregnum/res.Right -/
namespace Go.Abs
open Go
set_option linter.unusedVariables false
def f49.kills (a:aD):List Hint:=[.unroll 4 [0,1,2,3,4,7,8,9,10,11,14,15] [] []]
def f49.cuts (a:aD):List (Nat×Σ β:Type,β→Tm):=[]
def f49.af (a:aD):AF:=AF.mk (.seq (.region [oT 1 0 .box [0],
 ⟨(some 2),1,.move,[.c (.bool false)],none⟩])
 (.seq (.seq (.region [oT 5 2 (.load true 3) [1],
 ⟨(some 6),3,.move,[.c (.int .i64 (0))],none⟩])
 (.block 0 (.loop 4 [0,1,2,3,4,7,8,9,10,11,14,15] [] [] 4 16 (.seq (.region [⟨(some 7),4,(.bin .lss),[.t 6,.c (.int .i64 (3))],none⟩])
 (.seq (.cond (.t 7) (.skip) (.exit 0))
 (.seq (.block 1 (.seq (.region [oT 8 5 (.indexArr false 1 3) [5,6],
 oT 4 6 .move [8]])
 (.seq (.region [oT 9 7 .move [4],
 ⟨(some 10),8,(.bin .lss),[.t 9,.c (.int .i64 (0))],none⟩,
 oT 11 9 .move [10],
 oG 12 10 .move [4] 11 false,
 ⟨(some 13),11,(.bin .gtr),[.t 12,.c (.int .i64 (1048576))],(some (11,false))⟩,
 ⟨(some 14),12,.pick,[.t 11,.c (.bool true),.t 13],none⟩])
 (.cond (.t 14) (.seq (.region [⟨(some 2),13,.move,[.c (.bool false)],none⟩])
 (.ret)) (.skip)))))
 (.region [⟨(some 15),14,(.bin .add),[.t 6,.c (.int .i64 (1))],none⟩,
 oT 6 15 .move [15]])))))))
 (.seq (.region [⟨(some 2),16,.move,[.c (.bool true)],none⟩])
 (.ret))))
 [.tmp 2] 0 15
def f49.env:Env:=[]
def f49.tree (a:aD):Prop:=Br (decide (a.1 < (0:Int))) ((false=(bE a))∧True) (Br (decide ((1048576:Int) < a.1)) ((false=(bE a))∧True) (Br (decide (a.2.1 < (0:Int))) ((false=(bE a))∧True) (Br (decide ((1048576:Int) < a.2.1)) ((false=(bE a))∧True) (Br (decide (a.2.2 < (0:Int))) ((false=(bE a))∧True) (Br (decide ((1048576:Int) < a.2.2)) ((false=(bE a))∧True) ((true=(bE a))∧True))))))
def f49.vc (a:aD):Prop:=((a.1 < (0:Int)→(false=bE a))∧(¬(a.1 < (0:Int))→(((1048576:Int) < a.1→(false=bE a))∧(¬((1048576:Int) < a.1)→((a.2.1 < (0:Int)→(false=bE a))∧(¬(a.2.1 < (0:Int))→(((1048576:Int) < a.2.1→(false=bE a))∧(¬((1048576:Int) < a.2.1)→((a.2.2 < (0:Int)→(false=bE a))∧(¬(a.2.2 < (0:Int))→(((1048576:Int) < a.2.2→(false=bE a))∧(¬((1048576:Int) < a.2.2)→(true=bE a)))))))))))))
set_option maxRecDepth 100000 in
set_option maxHeartbeats 2000000 in
theorem f49.of (a:aD) (h:f49.vc a):f49.tree a:=br h Cnd.dec (fun h1 k30=>⟨k30,trivial⟩) (fun h2 k31=>br k31 Cnd.dec (fun h4 k28=>⟨k28,trivial⟩) (fun h5 k29=>br k29 Cnd.dec (fun h7 k26=>⟨k26,trivial⟩) (fun h8 k27=>br k27 Cnd.dec (fun h10 k24=>⟨k24,trivial⟩) (fun h11 k25=>br k25 Cnd.dec (fun h13 k22=>⟨k22,trivial⟩) (fun h14 k23=>br k23 Cnd.dec (fun h16 k20=>⟨k20,trivial⟩) (fun h17 k21=>⟨k21,trivial⟩))))))
theorem f49.eq (a:aD):(f49.af a).gives f49.env (f49.args a) (f49.blks a) (f49.res a) (f49.blks' a)=f49.tree a:=by kernel_rfl
end Go.Abs

-- interregnum/interregnumref03.Right
namespace Go.Abs
open Go
end Go.Abs

/- interregnum/interregnumref03.Right -/
namespace Go.Abs
open Go
set_option linter.unusedVariables false
end Go.Abs

-- interregnum/model.Node
namespace Go.Abs
open Go
def f35.ent (K:bX→Prop) (t:bX):Prop:=∃ c:bX,(t.1=c.1)∧(t.2.1.1=c.2.1.1)∧(t.2.1.2.1=c.2.1.2.1)∧(t.2.1.2.2=c.2.1.2.2)∧SlQ t.2.2.length c.2.2.length (gl aI t.2.2) (gl aI c.2.2) (K c)
theorem f35.ei {K:bX→Prop} {t:bX} (h:K t):f35.ent K t:=⟨t,⟨rfl,⟨rfl,⟨rfl,⟨rfl,slQ (Rds.self (enc:=aI)) (h)⟩⟩⟩⟩⟩
def f35.args (a:bX):List D:=[.agg [.str a.1,.int .i64 a.2.1.1,.int .i64 a.2.1.2.1,.int .i64 a.2.1.2.2,.slice .ro 2 a.2.2.length (gl aI a.2.2)]]
def f35.blks (a:bX):List (List D):=[]
def f35.res (a:bX):List D:=[.bool (jZ a)]
def f35.blks' (a:bX):List (List D):=[]
def f35.C:aN:=FnC f35.args f35.blks (fun a=>iC a) f35.res f35.blks'
end Go.Abs

/- interregnum/model.Node -/
namespace Go.Abs
open Go
set_option linter.unusedVariables false
def f35.kills (a:bX):List Hint:=[]
def f35.cuts (a:bX):List (Nat×Σ β:Type,β→Tm):=[]
def f35.af (a:bX):AF:=AF.mk (.seq (.region [oT 1 0 .box [0],
 ⟨(some 2),1,.move,[.c (.bool false)],none⟩])
 (.seq (.region [oT 3 2 (.fieldAddr 0) [1],
 oT 4 3 (.load false 1) [3],
 oT 5 4 (.call false 48) [4],
 oT 6 8 .move [5],
 oG 7 9 (.fieldAddr 1) [1] 6 true,
 oG 8 10 (.load true 3) [7] 6 true,
 oG 9 11 (.call false 49) [8] 6 true,
 ⟨(some 10),15,.pick,[.t 6,.t 9,.c (.bool false)],none⟩,
 oT 11 16 .move [10],
 oG 12 17 (.fieldAddr 4) [1] 11 true,
 oG 13 18 (.load false 1) [12] 11 true,
 oG 14 19 (.call false 50) [13] 11 true,
 ⟨(some 15),23,.pick,[.t 11,.t 14,.c (.bool false)],none⟩,
 oT 2 24 .move [15]])
 (.ret)))
 [.tmp 2] 0 15
def f35.env:Env:=[(48,f48.C),(49,f49.C),(50,f50.C)]
def f35.tree (a:bX):Prop:=∃ c1:ByteArray,(a.1=c1)∧(bQ c1)∧Br (cK c1) (∃ c4:aD,(a.2.1.1=c4.1)∧(a.2.1.2.1=c4.2.1)∧(a.2.1.2.2=c4.2.2)∧True∧Br (bE c4) (f50.ent (fun c7=>(gI c7)∧((cF c7)=(jZ a))∧True) a.2.2) ((false=(jZ a))∧True)) ((false=(jZ a))∧True)
def f35.vc (a:bX):Prop:=(bQ a.1∧(((cK (a.1))=true→(((bE (a.2.1))=true→(gI a.2.2∧((cF (a.2.2))=jZ a)))∧(¬((bE (a.2.1))=true)→(false=jZ a))))∧(¬((cK (a.1))=true)→(false=jZ a))))
set_option maxRecDepth 100000 in
set_option maxHeartbeats 2000000 in
theorem f35.of (a:bX) (h:f35.vc a):f35.tree a:=⟨a.1,⟨rfl,⟨h.1,br h.2 Cnd.b (fun h2 k15=>⟨a.2.1,⟨rfl,⟨rfl,⟨rfl,⟨trivial,br k15 Cnd.b (fun h5 k11=>(f50.ei ⟨k11.1,⟨k11.2,trivial⟩⟩)) (fun h6 k12=>⟨k12,trivial⟩)⟩⟩⟩⟩⟩) (fun h3 k16=>⟨k16,trivial⟩)⟩⟩⟩
theorem f35.eq (a:bX):(f35.af a).gives f35.env (f35.args a) (f35.blks a) (f35.res a) (f35.blks' a)=f35.tree a:=by kernel_rfl
end Go.Abs

-- interregnum/interregnumref05.Node
namespace Go.Abs
open Go
end Go.Abs

/- interregnum/interregnumref05.Node -/
namespace Go.Abs
open Go
set_option linter.unusedVariables false
end Go.Abs

-- interregnum/model.maybe
namespace Go.Abs
open Go
def f51.args (a:ByteArray):List D:=[.str a]
def f51.blks (a:ByteArray):List (List D):=[]
def f51.res (a:ByteArray):List D:=[.bool (eV a)]
def f51.blks' (a:ByteArray):List (List D):=[]
def f51.C:aN:=FnC f51.args f51.blks (fun a=>bQ a) f51.res f51.blks'
end Go.Abs

/- interregnum/model.maybe -/
namespace Go.Abs
open Go
set_option linter.unusedVariables false
def f51.kills (a:ByteArray):List Hint:=[]
def f51.cuts (a:ByteArray):List (Nat×Σ β:Type,β→Tm):=[]
def f51.af (a:ByteArray):AF:=AF.mk (.seq (.region [⟨(some 2),0,.move,[.c (.bool false)],none⟩])
 (.seq (.region [oT 3 1 .move [0],
 ⟨(some 4),2,(.bin .eql),[.t 3,.c (.str ByteArray.empty)],none⟩,
 oT 5 3 .move [4],
 oG 6 4 .move [0] 5 false,
 oG 7 5 (.call false 48) [6] 5 false,
 ⟨(some 8),9,.pick,[.t 5,.c (.bool true),.t 7],none⟩,
 oT 2 10 .move [8]])
 (.ret)))
 [.tmp 2] 0 8
def f51.env:Env:=[(48,f48.C)]
def f51.tree (a:ByteArray):Prop:=Br (a.toList==ByteArray.empty.toList) ((true=(eV a))∧True) (∃ c4:ByteArray,(a=c4)∧(bQ c4)∧((cK c4)=(eV a))∧True)
def f51.vc (a:ByteArray):Prop:=((a=ByteArray.empty→(true=eV a))∧(¬(a=ByteArray.empty)→(bQ a∧((cK a)=eV a))))
set_option maxRecDepth 100000 in
set_option maxHeartbeats 2000000 in
theorem f51.of (a:ByteArray) (h:f51.vc a):f51.tree a:=br h Cnd.seq (fun h1 k7=>⟨k7,trivial⟩) (fun h2 k8=>⟨a,⟨rfl,⟨k8.1,⟨k8.2,trivial⟩⟩⟩⟩)
theorem f51.eq (a:ByteArray):(f51.af a).gives f51.env (f51.args a) (f51.blks a) (f51.res a) (f51.blks' a)=f51.tree a:=by kernel_rfl
end Go.Abs

-- interregnum/model.Task
namespace Go.Abs
open Go
def f24.ent (K:aG→Prop) (t:aG):Prop:=∃ c:aG,(t.1=c.1)∧(t.2.1=c.2.1)∧(t.2.2.1=c.2.2.1)∧(t.2.2.2.1.1=c.2.2.2.1.1)∧(t.2.2.2.1.2.1=c.2.2.2.1.2.1)∧(t.2.2.2.1.2.2=c.2.2.2.1.2.2)∧SlQ t.2.2.2.2.1.length c.2.2.2.2.1.length (gl aI t.2.2.2.2.1) (gl aI c.2.2.2.2.1) ((t.2.2.2.2.2.1=c.2.2.2.2.2.1)∧(t.2.2.2.2.2.2.1=c.2.2.2.2.2.2.1)∧(t.2.2.2.2.2.2.2=c.2.2.2.2.2.2.2)∧K c)
theorem f24.ei {K:aG→Prop} {t:aG} (h:K t):f24.ent K t:=⟨t,⟨rfl,⟨rfl,⟨rfl,⟨rfl,⟨rfl,⟨rfl,slQ (Rds.self (enc:=aI)) (⟨rfl,⟨rfl,⟨rfl,h⟩⟩⟩)⟩⟩⟩⟩⟩⟩⟩
def f24.args (a:aG):List D:=[.agg [.str a.1,.str a.2.1,.int .i64 a.2.2.1,.int .i64 a.2.2.2.1.1,.int .i64 a.2.2.2.1.2.1,.int .i64 a.2.2.2.1.2.2,.slice .ro 2 a.2.2.2.2.1.length (gl aI a.2.2.2.2.1),.str a.2.2.2.2.2.1,.str a.2.2.2.2.2.2.1,.int .i64 a.2.2.2.2.2.2.2]]
def f24.blks (a:aG):List (List D):=[]
def f24.res (a:aG):List D:=[.bool (dM a)]
def f24.blks' (a:aG):List (List D):=[]
def f24.C:aN:=FnC f24.args f24.blks (fun a=>kL a) f24.res f24.blks'
end Go.Abs

/- interregnum/model.Task -/
namespace Go.Abs
open Go
set_option linter.unusedVariables false
def f24.kills (a:aG):List Hint:=[]
def f24.cuts (a:aG):List (Nat×Σ β:Type,β→Tm):=[]
def f24.af (a:aG):AF:=AF.mk (.seq (.region [oT 1 0 .box [0],
 ⟨(some 2),1,.move,[.c (.bool false)],none⟩])
 (.seq (.block 0 (.seq (.region [oT 4 2 (.fieldAddr 0) [1],
 oT 5 3 (.load false 1) [4],
 oT 6 4 (.call false 48) [5],
 oT 7 8 (.un .not) [6],
 oT 8 9 .move [7],
 oG 9 10 (.fieldAddr 1) [1] 8 false,
 oG 10 11 (.load false 1) [9] 8 false,
 oG 11 12 (.call false 48) [10] 8 false,
 oG 12 16 (.un .not) [11] 8 false,
 ⟨(some 13),17,.pick,[.t 8,.c (.bool true),.t 12],none⟩,
 oT 3 18 .move [13]])
 (.cond (.t 3) (.seq (.region [⟨(some 2),19,.move,[.c (.bool false)],none⟩])
 (.ret)) (.seq (.region [oT 15 20 (.fieldAddr 2) [1],
 oT 16 21 (.load false 1) [15],
 ⟨(some 17),22,(.bin .lss),[.t 16,.c (.int .i64 (0))],none⟩,
 oT 18 23 .move [17],
 oG 19 24 (.fieldAddr 2) [1] 18 false,
 oG 20 25 (.load false 1) [19] 18 false,
 ⟨(some 21),26,(.bin .gtr),[.t 20,.c (.int .i64 (9))],(some (18,false))⟩,
 ⟨(some 22),27,.pick,[.t 18,.c (.bool true),.t 21],none⟩,
 oT 23 28 .move [22],
 oG 24 29 (.fieldAddr 3) [1] 23 false,
 oG 25 30 (.load true 3) [24] 23 false,
 oG 26 31 (.call false 49) [25] 23 false,
 oG 27 35 (.un .not) [26] 23 false,
 ⟨(some 28),36,.pick,[.t 23,.c (.bool true),.t 27],none⟩,
 oT 14 37 .move [28]])
 (.cond (.t 14) (.seq (.region [⟨(some 2),38,.move,[.c (.bool false)],none⟩])
 (.ret)) (.seq (.region [oT 30 39 (.fieldAddr 6) [1],
 oT 31 40 (.load false 1) [30],
 oT 32 41 (.call false 50) [31],
 oT 33 45 (.un .not) [32],
 oT 34 46 .move [33],
 oG 35 47 (.fieldAddr 7) [1] 34 false,
 oG 36 48 (.load false 1) [35] 34 false,
 oG 37 49 (.call false 51) [36] 34 false,
 oG 38 53 (.un .not) [37] 34 false,
 ⟨(some 39),54,.pick,[.t 34,.c (.bool true),.t 38],none⟩,
 oT 40 55 .move [39],
 oG 41 56 (.fieldAddr 8) [1] 40 false,
 oG 42 57 (.load false 1) [41] 40 false,
 oG 43 58 (.call false 51) [42] 40 false,
 oG 44 62 (.un .not) [43] 40 false,
 ⟨(some 45),63,.pick,[.t 40,.c (.bool true),.t 44],none⟩,
 oT 29 64 .move [45]])
 (.cond (.t 29) (.seq (.region [⟨(some 2),65,.move,[.c (.bool false)],none⟩])
 (.ret)) (.seq (.region [oT 47 66 (.fieldAddr 8) [1],
 oT 48 67 (.load false 1) [47],
 ⟨(some 49),68,(.bin .eql),[.t 48,.c (.str ByteArray.empty)],none⟩,
 oT 46 69 .move [49]])
 (.cond (.t 46) (.seq (.region [oT 50 70 (.fieldAddr 9) [1],
 oT 51 71 (.load false 1) [50],
 ⟨(some 52),72,(.bin .eql),[.t 51,.c (.int .i64 (0))],none⟩,
 oT 2 73 .move [52]])
 (.ret)) (.skip))))))))))
 (.seq (.region [oT 53 74 (.fieldAddr 9) [1],
 oT 54 75 (.load false 1) [53],
 ⟨(some 55),76,(.bin .geq),[.t 54,.c (.int .i64 (2))],none⟩,
 oT 56 77 .move [55],
 oG 57 78 (.fieldAddr 9) [1] 56 true,
 oG 58 79 (.load false 1) [57] 56 true,
 ⟨(some 59),80,(.bin .leq),[.t 58,.c (.int .i64 (4))],(some (56,true))⟩,
 ⟨(some 60),81,.pick,[.t 56,.t 59,.c (.bool false)],none⟩,
 oT 2 82 .move [60]])
 (.ret))))
 [.tmp 2] 0 60
def f24.env:Env:=[(48,f48.C),(49,f49.C),(50,f50.C),(51,f51.C)]
def f24.tree (a:aG):Prop:=∃ c1:ByteArray,(a.1=c1)∧(bQ c1)∧Br (!(cK c1)) ((false=(dM a))∧True) (∃ c5:ByteArray,(a.2.1=c5)∧(bQ c5)∧Br (!(cK c5)) ((false=(dM a))∧True) (Br (decide (a.2.2.1 < (0:Int))) ((false=(dM a))∧True) (Br (decide ((9:Int) < a.2.2.1)) ((false=(dM a))∧True) (∃ c15:aD,(a.2.2.2.1.1=c15.1)∧(a.2.2.2.1.2.1=c15.2.1)∧(a.2.2.2.1.2.2=c15.2.2)∧True∧Br (!(bE c15)) ((false=(dM a))∧True) (f50.ent (fun c19=>(gI c19)∧Br (!(cF c19)) ((false=(dM a))∧True) (∃ c23:ByteArray,(a.2.2.2.2.2.1=c23)∧(bQ c23)∧Br (!(eV c23)) ((false=(dM a))∧True) (∃ c27:ByteArray,(a.2.2.2.2.2.2.1=c27)∧(bQ c27)∧Br (!(eV c27)) ((false=(dM a))∧True) (Br (a.2.2.2.2.2.2.1.toList==ByteArray.empty.toList) (((a.2.2.2.2.2.2.2==(0:Int))=(dM a))∧True) (Br (decide ((2:Int)≤a.2.2.2.2.2.2.2)) (((decide (a.2.2.2.2.2.2.2≤(4:Int)))=(dM a))∧True) ((false=(dM a))∧True)))))) a.2.2.2.2.1)))))
def f24.vc (a:aG):Prop:=(bQ a.1∧((¬((cK (a.1))=true)→(false=dM a))∧(¬(¬((cK (a.1))=true))→(bQ a.2.1∧((¬((cK (a.2.1))=true)→(false=dM a))∧(¬(¬((cK (a.2.1))=true))→((a.2.2.1 < (0:Int)→(false=dM a))∧(¬(a.2.2.1 < (0:Int))→(((9:Int) < a.2.2.1→(false=dM a))∧(¬((9:Int) < a.2.2.1)→((¬((bE (a.2.2.2.1))=true)→(false=dM a))∧(¬(¬((bE (a.2.2.2.1))=true))→(gI a.2.2.2.2.1∧((¬((cF (a.2.2.2.2.1))=true)→(false=dM a))∧(¬(¬((cF (a.2.2.2.2.1))=true))→(bQ a.2.2.2.2.2.1∧((¬((eV (a.2.2.2.2.2.1))=true)→(false=dM a))∧(¬(¬((eV (a.2.2.2.2.2.1))=true))→(bQ a.2.2.2.2.2.2.1∧((¬((eV (a.2.2.2.2.2.2.1))=true)→(false=dM a))∧(¬(¬((eV (a.2.2.2.2.2.2.1))=true))→((a.2.2.2.2.2.2.1=ByteArray.empty→((a.2.2.2.2.2.2.2==(0:Int))=dM a))∧(¬(a.2.2.2.2.2.2.1=ByteArray.empty)→(((2:Int)≤a.2.2.2.2.2.2.2→(decide (a.2.2.2.2.2.2.2≤(4:Int))=dM a))∧(¬((2:Int)≤a.2.2.2.2.2.2.2)→(false=dM a))))))))))))))))))))))))))
set_option maxRecDepth 100000 in
set_option maxHeartbeats 2000000 in
theorem f24.of (a:aG) (h:f24.vc a):f24.tree a:=⟨a.1,⟨rfl,⟨h.1,br h.2 (Cnd.not Cnd.b) (fun h2 k61=>⟨k61,trivial⟩) (fun h3 k62=>⟨a.2.1,⟨rfl,⟨k62.1,br k62.2 (Cnd.not Cnd.b) (fun h6 k58=>⟨k58,trivial⟩) (fun h7 k59=>br k59 Cnd.dec (fun h9 k56=>⟨k56,trivial⟩) (fun h10 k57=>br k57 Cnd.dec (fun h12 k54=>⟨k54,trivial⟩) (fun h13 k55=>⟨a.2.2.2.1,⟨rfl,⟨rfl,⟨rfl,⟨trivial,br k55 (Cnd.not Cnd.b) (fun h16 k51=>⟨k51,trivial⟩) (fun h17 k52=>(f50.ei ⟨k52.1,br k52.2 (Cnd.not Cnd.b) (fun h20 k48=>⟨k48,trivial⟩) (fun h21 k49=>⟨a.2.2.2.2.2.1,⟨rfl,⟨k49.1,br k49.2 (Cnd.not Cnd.b) (fun h24 k45=>⟨k45,trivial⟩) (fun h25 k46=>⟨a.2.2.2.2.2.2.1,⟨rfl,⟨k46.1,br k46.2 (Cnd.not Cnd.b) (fun h28 k42=>⟨k42,trivial⟩) (fun h29 k43=>br k43 Cnd.seq (fun h31 k40=>⟨k40,trivial⟩) (fun h32 k41=>br k41 Cnd.dec (fun h34 k38=>⟨k38,trivial⟩) (fun h35 k39=>⟨k39,trivial⟩)))⟩⟩⟩)⟩⟩⟩)⟩))⟩⟩⟩⟩⟩)))⟩⟩⟩)⟩⟩⟩
theorem f24.eq (a:aG):(f24.af a).gives f24.env (f24.args a) (f24.blks a) (f24.res a) (f24.blks' a)=f24.tree a:=by kernel_rfl
end Go.Abs

-- interregnum/interregnumref05.Task
namespace Go.Abs
open Go
end Go.Abs

/- interregnum/interregnumref05.Task -/
namespace Go.Abs
open Go
set_option linter.unusedVariables false
end Go.Abs

/- Names,labels,tasks: what the code asks is so. -/
namespace Go.Abs
open Go

theorem m3 {s:ByteArray} (h:cK s≠true):false=cK s:=by
 cases hh:cK s with
 | false=>rfl
 | true=>exact absurd hh h

theorem f48.ok (a:ByteArray) (h:bQ a):f48.vc a:=by
 unfold f48.vc
 refine ⟨fun h0=>⟨fun h1=>⟨?_,fun h2=>⟨h,?_⟩,fun h2=>?_⟩,fun h1=>?_⟩,fun h0=>?_⟩
 ·have:a.size≠0:=fun hh=>h0 (gU.2 hh)
  omega
 ·have hs:1≤a.size:=by
   have:a.size≠0:=fun hh=>h0 (gU.2 hh)
   omega
  rw [Bool.eq_iff_iff,Bool.not_eq_true',aCV,nF]
  exact ⟨fun h3=>⟨hs,by omega,h2,h3⟩,fun h3=>h3.2.2.2⟩
 ·exact m3 fun hh=>h2 (nF.1 hh).2.2.1
 ·exact m3 fun hh=>by have:=(nF.1 hh).2.1; omega
 ·have h0:=Classical.not_not.1 h0
  exact m3 fun hh=>by have:=(nF.1 hh).1; rw [gU.1 h0] at this; omega

theorem oA {l:List gX} (h:cF l≠true):false=cF l:=by
 cases hh:cF l with
 | false=>rfl
 | true=>exact absurd hh h

theorem aFC {l:List gX} {i:Nat}:rV l i=true↔cK (l.getD i default).1=true∧cK (l.getD i default).2=true∧(i=0∨sLt (l.getD (i - 1) default).1 (l.getD i default).1):=by
 unfold rV
 simp only [Bool.and_eq_true,Bool.or_eq_true,beq_iff_eq,and_assoc,xK]

theorem f50.ok (a:List gX) (h:gI a):f50.vc a:=by
 unfold f50.vc
 refine ⟨fun h0=>oA fun hh=>by have:=(mD.1 hh).1; omega,fun h0=>?_⟩
 refine ⟨fun y=>0≤y.2∧y.2≤(a.length:Int)∧(∀ i,i < y.2.toNat→rV a i=true)∧(0 < y.2→y.1=(at_ a (y.2 - 1)).1),fun y=>a.length - y.2.toNat,⟨by simp only; omega,by simp only; omega,fun i hi=>by simp at hi,fun h=>by simp at h⟩,fun y hy=>?_⟩
 obtain ⟨last,y⟩:=y
 obtain ⟨g0,g1,g2,g3⟩:=hy
 simp only at g0 g1 g2 g3 ⊢
 refine ⟨fun hlt=>?_,fun hge=>?_⟩
 ·obtain ⟨n1,n2⟩:=h _ (aIX g0 hlt)
  have hbad:¬rV a y.toNat=true→false=cF a:=fun hn=>oA fun hh=>hn ((mD.1 hh).2 _ (by omega))
  have hgood:rV a y.toNat=true→-9223372036854775808≤(y+(1:Int))∧(y+(1:Int))≤9223372036854775807∧(0≤y+1∧y+1≤(a.length:Int)∧(∀ i,i < (y+1).toNat→rV a i=true)∧(0 < y+1→(at_ a y).1=(at_ a (y+1 - 1)).1))∧a.length - (y+1).toNat < a.length - y.toNat:=fun hg=>by
   refine ⟨by omega,by omega,⟨by omega,by omega,fun i hi=>?_,fun _=>by rw [Int.add_sub_cancel]⟩,by omega⟩
   by_cases he:i=y.toNat
   ·subst he; exact hg
   ·exact g2 i (by omega)
  rw [aFC,← sN] at hbad hgood
  have hprev:0 < y→(a.getD (y.toNat - 1) default)=at_ a (y - 1):=fun _=>by unfold at_; congr 1; omega
  refine ⟨g0,hlt,n1,fun c1=>hbad fun hh=>c1 hh.1,fun c1=>⟨n2,fun c2=>hbad fun hh=>c2 hh.2.1,fun c2=>⟨fun c3=>⟨fun c4=>?_,fun c4=>?_⟩,fun c3=>?_⟩⟩⟩
  ·refine hbad fun hh=>?_
   rcases hh.2.2 with h1 | h1
   ·omega
   ·rw [hprev c3,← g3 c3] at h1
    have:=aDX.2 c4
    rw [xK.2 h1] at this
    cases this
  ·refine hgood ⟨Classical.not_not.1 c1,Classical.not_not.1 c2,.inr ?_⟩
   rw [hprev c3,← g3 c3]
   cases hh:slt last (at_ a y).1 with
   | true=>exact xK.1 hh
   | false=>exact absurd (aDX.1 hh) c4
  ·exact hgood ⟨Classical.not_not.1 c1,Classical.not_not.1 c2,.inl (by omega)⟩
 ·symm
  rw [mD]
  exact ⟨by omega,fun i hi=>g2 i (by omega)⟩

theorem xO {l:dR} (h:bE l≠true):false=bE l:=by
 cases hh:bE l with
 | false=>rfl
 | true=>exact absurd hh h

theorem aGU (a:dR):f49.vc a:=by
 unfold f49.vc
 have hb:¬((0≤a.1∧a.1≤1048576)∧(0≤a.2.1∧a.2.1≤1048576)∧(0≤a.2.2∧a.2.2≤1048576))→false=bE a:=fun h=>xO fun hh=>h (jK.1 hh)
 refine ⟨fun h=>hb (by omega),fun h1=>⟨fun h=>hb (by omega),fun h2=>⟨fun h=>hb (by omega),fun h3=>⟨fun h=>hb (by omega),fun h4=>⟨fun h=>hb (by omega),fun h5=>⟨fun h=>hb (by omega),fun h6=>?_⟩⟩⟩⟩⟩⟩
 symm
 rw [jK]
 omega

theorem f49.ok (a:dR) (_:True):f49.vc a:=aGU a
theorem f35.ok (a:aA3) (h:iC a):f35.vc a:=by
 obtain ⟨h1,h2⟩:=h
 refine ⟨h1,fun c1=>⟨fun c2=>⟨h2,?_⟩,fun c2=>?_⟩,fun c1=>?_⟩
 ·unfold jZ; rw [c1,c2]; rfl
 ·unfold jZ; rw [c1,Bool.eq_false_iff.2 c2]; rfl
 ·unfold jZ; rw [Bool.eq_false_iff.2 c1]; rfl
theorem f51.ok (a:ByteArray) (h:bQ a):f51.vc a:=by
 refine ⟨fun c1=>?_,fun c1=>⟨h,?_⟩⟩
 ·subst c1; rfl
 ·unfold eV
  have:(a.size==0)=false:=by
   rw [beq_eq_false_iff_ne]
   exact fun hh=>c1 (gU.2 hh)
  rw [this]; rfl

theorem eJ {t:cE} (h:¬(cK t.1=true∧cK t.2.1=true∧(0≤t.2.2.1∧t.2.2.1≤9)∧bE t.2.2.2.1=true∧cF t.2.2.2.2.1=true∧eV t.2.2.2.2.2.1=true∧eV t.2.2.2.2.2.2.1=true∧wX t.2.2.2.2.2.2.1 t.2.2.2.2.2.2.2=true)):false=dM t:=by
 cases hh:dM t with
 | false=>rfl
 | true=>exact absurd (vQ.1 hh) h

theorem f24.ok (a:cE) (h:kL a):f24.vc a:=by
 obtain ⟨p1,p2,p3,p4,p5⟩:=h
 unfold f24.vc
 refine ⟨p1,fun c=>eJ fun hh=>c hh.1,fun c1=>⟨p2,fun c=>eJ fun hh=>c hh.2.1,fun c2=>⟨fun c=>eJ fun hh=>by have:=hh.2.2.1; omega,fun c3=>⟨fun c=>eJ fun hh=>by have:=hh.2.2.1; omega,fun c4 =>
  ⟨fun c=>eJ fun hh=>c hh.2.2.2.1,fun c5=>⟨p3,fun c=>eJ fun hh=>c hh.2.2.2.2.1,fun c6=>⟨p4,fun c=>eJ fun hh=>c hh.2.2.2.2.2.1,fun c7=>⟨p5,fun c=>eJ fun hh=>c hh.2.2.2.2.2.2.1,fun c8=>?_⟩⟩⟩⟩⟩⟩⟩⟩
 have e:dM a=wX a.2.2.2.2.2.2.1 a.2.2.2.2.2.2.2:=by
  rw [Bool.eq_iff_iff,vQ]
  exact ⟨fun h=>h.2.2.2.2.2.2.2,fun h=>⟨Classical.not_not.1 c1,Classical.not_not.1 c2,⟨by omega,by omega⟩,Classical.not_not.1 c5,Classical.not_not.1 c6,Classical.not_not.1 c7,Classical.not_not.1 c8,h⟩⟩
 rw [e]
 refine ⟨fun c=>?_,fun c=>⟨fun d=>?_,fun d=>?_⟩⟩
 ·rw [Bool.eq_iff_iff,qZ,beq_iff_eq]
  have:=gU.1 c
  omega
 ·have:a.2.2.2.2.2.2.1.size≠0:=fun hh=>c (gU.2 hh)
  rw [Bool.eq_iff_iff,qZ,decide_eq_true_eq]
  omega
 ·have:a.2.2.2.2.2.2.1.size≠0:=fun hh=>c (gU.2 hh)
  rw [Bool.eq_iff_iff,qZ]
  constructor
  ·intro h; cases h
  ·intro h; omega

end Go.Abs
