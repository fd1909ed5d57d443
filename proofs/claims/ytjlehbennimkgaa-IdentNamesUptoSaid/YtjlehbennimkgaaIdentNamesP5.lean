/- Functions, and what the code asks of them: PModel. -/
import Derived.KernelRfl
import Derived.Test.YtjlehbennimkgaaIdentNamesP3
import Derived.Test.YtjlehbennimkgaaIdentNamesP4
set_option linter.unusedVariables false
set_option linter.unusedSimpArgs false
/- Names,labels,amounts,machines,queues,tasks: what can be,and their bytes. -/
namespace Go.Abs
open Go
abbrev cI:=ByteArray×ByteArray
def slt (a b:ByteArray):Bool:=Op.bytesLess a.toList b.toList
def bF (s:ByteArray):Bool:=decide (1≤s.size∧s.size≤16)&&(nth s.data.toList 0 0 != 45)&&s.data.toList.all ltr
def kB (l:List cI) (i:Nat):Bool:=bF (l.getD i default).1&&bF (l.getD i default).2&&(i==0 || slt (l.getD (i - 1) default).1 (l.getD i default).1)
def bB (l:List cI):Bool:=decide (l.length≤4)&&(List.range l.length).all (kB l)
def bU (s:ByteArray):Prop:=s.size≤1073741824
def dQ (l:List cI):Prop:=∀ x∈l,x.1.size≤1073741824∧x.2.size≤1073741824
end Go.Abs

/- Names,labels,bytes of tasks: plain facts. -/
namespace Go.Abs
open Go

theorem fY:∀ x:List UInt8,Op.bytesLess x x=false
 | []=>rfl
 | a::x=>by
  have h:(a < a)=False:=by simp
  simp [Op.bytesLess,fY x]

theorem oI:∀ x y:List UInt8,Op.bytesLess x y=true∨x=y∨Op.bytesLess y x=true
 | [],[]=>.inr (.inl rfl)
 | [],_::_=>.inl rfl
 | _::_,[]=>.inr (.inr rfl)
 | a::x,b::y=>by
  simp only [Op.bytesLess,Bool.or_eq_true,Bool.and_eq_true,decide_eq_true_eq,beq_iff_eq,List.cons.injEq]
  rcases Nat.lt_trichotomy a.toNat b.toNat with h | h | h
  ·exact .inl (.inl (UInt8.lt_iff_toNat_lt.2 h))
  ·have h:a=b:=UInt8.toNat_inj.1 h
   subst h
   rcases oI x y with h | h | h
   ·exact .inl (.inr ⟨rfl,h⟩)
   ·exact .inr (.inl ⟨rfl,h⟩)
   ·exact .inr (.inr (.inr ⟨rfl,h⟩))
  ·exact .inr (.inr (.inl (UInt8.lt_iff_toNat_lt.2 h)))

theorem g9:∀ {x y z:List UInt8},Op.bytesLess x y=true→Op.bytesLess y z=true→Op.bytesLess x z=true
 | [],[],_,h,_=>by cases h
 | [],_::_,[],_,h=>by cases h
 | [],_::_,_::_,_,_=>rfl
 | _::_,[],_,h,_=>by cases h
 | _::_,_::_,[],_,h=>by cases h
 | a::x,b::y,c::z,h,k=>by
  simp only [Op.bytesLess,Bool.or_eq_true,Bool.and_eq_true,decide_eq_true_eq,beq_iff_eq] at h k ⊢
  rcases h with h | ⟨rfl,h⟩ <;> rcases k with k | ⟨rfl,k⟩
  ·exact .inl (UInt8.lt_trans h k)
  ·exact .inl h
  ·exact .inl k
  ·exact .inr ⟨rfl,g9 h k⟩

theorem rN {x y:List UInt8} (h:Op.bytesLess x y=true):Op.bytesLess y x=false:=by
 cases hh:Op.bytesLess y x with
 | false=>rfl
 | true=>rw [← fY x,g9 h hh]

theorem nI {a b:ByteArray}:slt a b=true↔sLt a b:=Iff.rfl
theorem qQ {a b:ByteArray}:slt a b=false↔sLe b a:=by
 unfold slt sLe sLt
 constructor
 ·intro h
  rcases oI a.toList b.toList with h1 | h1 | h1
  ·rw [h] at h1; cases h1
  ·exact .inr (toList_inj.1 h1.symm)
  ·exact .inl h1
 ·rintro (h | rfl)
  ·exact rN h
  ·exact fY _

theorem aF1 (x:UInt8):ltr x=true↔(97≤x.toNat∧x.toNat≤122)∨(48≤x.toNat∧x.toNat≤57)∨x.toNat=45:=by
 unfold ltr
 simp only [Bool.or_eq_true,Bool.and_eq_true,decide_eq_true_eq,beq_iff_eq,UInt8.le_iff_toNat_le,or_assoc]
 have:x=45↔x.toNat=45:=⟨fun h=>by subst h; rfl,fun h=>UInt8.toNat_inj.1 h⟩
 rw [this]
 rfl

theorem o6 {a:ByteArray}:a=ByteArray.empty↔a.size=0:=⟨fun h=>by subst h; rfl,fun h=>pI (by
 have:=p8 a
 rw [h] at this
 rw [List.length_eq_zero_iff.1 this]; rfl)⟩

theorem eC {s:ByteArray}:bF s=true↔1≤s.size∧s.size≤16∧bAt s 0≠45∧∀ (i:Nat) (x:UInt8),s.data.toList[i]? = some x→ltr x=true:=by
 unfold bF
 have e:nth s.data.toList 0 0≠45↔bAt s 0≠45:=by
  unfold bAt
  have:nth s.data.toList (Int.toNat 0) 0=45↔(nth s.data.toList (Int.toNat 0) 0).toNat=45:=⟨fun h=>by rw [h]; rfl,fun h=>UInt8.toNat_inj.1 h⟩
  show nth s.data.toList (Int.toNat 0) 0≠45↔_
  rw [Ne,this]
  omega
 simp only [Bool.and_eq_true,decide_eq_true_eq,bne_iff_ne,List.all_eq_true,e,and_assoc]
 constructor
 ·rintro ⟨h1,h2,h3,h4⟩
  exact ⟨h1,h2,h3,fun i x hx=>h4 x (List.mem_of_getElem? hx)⟩
 ·rintro ⟨h1,h2,h3,h4⟩
  exact ⟨h1,h2,h3,fun x hx=>by
   obtain ⟨i,hi⟩:=List.getElem?_of_mem hx
   exact h4 i x hi⟩

theorem aDD {l:List UInt8}:nT l < 0↔∀ (i:Nat) (x:UInt8),l[i]? = some x→ltr x=true:=by
 unfold nT
 constructor
 ·intro h i x hx
  cases hf:l.findIdx? (fun x=>!ltr x) with
  | none =>
   have:=List.findIdx?_eq_none_iff.1 hf x (List.mem_of_getElem? hx)
   simpa using this
  | some j=>rw [hf] at h; simp only at h; omega
 ·intro h
  rw [List.findIdx?_eq_none_iff.2 fun x hx=>by
   obtain ⟨i,hi⟩:=List.getElem?_of_mem hx
   simp [h i x hi]]
  decide

theorem aAE {s:ByteArray}:m5 s=false↔∀ (i:Nat) (x:UInt8),s.data.toList[i]? = some x→ltr x=true:=by
 unfold m5
 rw [decide_eq_false_iff_not,← aDD]
 omega

theorem qK {α:Type} [Inhabited α] (l:List α) (i:Int):at_ l i=l.getD i.toNat default:=rfl

theorem eV {l:List cI}:bB l=true↔l.length≤4∧∀ i,i < l.length→kB l i=true:=by
 unfold bB
 simp only [Bool.and_eq_true,decide_eq_true_eq,List.all_eq_true,List.mem_range]

theorem aD9 {α:Type} [Inhabited α] {l:List α} {i:Nat} (h:i < l.length):l.getD i default∈l:=by
 rw [List.getD_eq_getElem?_getD,List.getElem?_eq_getElem h]
 exact List.getElem_mem h

theorem wP {α:Type} [Inhabited α] {l:List α} {i:Int} (h0:0≤i) (h:i < (l.length:Int)):at_ l i∈l:=aD9 (by omega)

end Go.Abs

-- interregnum/ident.Name
namespace Go.Abs
open Go
def f48.args (a:ByteArray):List D:=[.str a]
def f48.blks (a:ByteArray):List (List D):=[]
def f48.res (a:ByteArray):List D:=[.bool (bF a)]
def f48.blks' (a:ByteArray):List (List D):=[]
def f48.C:aL:=FnC f48.args f48.blks (fun a=>bU a) f48.res f48.blks'
end Go.Abs

/- interregnum/ident.Name -/
namespace Go.Abs
open Go
set_option linter.unusedVariables false
def f48.kills (a:ByteArray):List Hint:=[]
def f48.cuts (a:ByteArray):List (Nat×Σ β:Type,β→Tm):=[]
def f48.af (a:ByteArray):AF:=AF.mk (.seq (.region [⟨(some 2),0,.move,[.c (.bool false)],none⟩])
 (.seq (.region [oT 3 1 .move [0],
 ⟨(some 4),2,(.bin .neq),[.t 3,.c (.str ByteArray.empty)],none⟩,
 oT 5 3 .move [4],
 oG 6 4 .move [0] 5 true,
 oG 7 5 (.len true) [6] 5 true,
 ⟨(some 8),6,(.bin .leq),[.t 7,.c (.int .i64 (16))],(some (5,true))⟩,
 ⟨(some 9),7,.pick,[.t 5,.t 8,.c (.bool false)],none⟩,
 oT 10 8 .move [9],
 oG 11 9 .move [0] 10 true,
 ⟨(some 12),10,.indexStr,[.t 11,.c (.int .i64 (0))],(some (10,true))⟩,
 ⟨(some 13),11,(.bin .neq),[.t 12,.c (.int .u8 (45))],(some (10,true))⟩,
 ⟨(some 14),12,.pick,[.t 10,.t 13,.c (.bool false)],none⟩,
 oT 15 13 .move [14],
 oG 16 14 .move [0] 15 true,
 ⟨(some 17),15,(.call false 66),[.t 16,.c (.fn 67 [])],(some (15,true))⟩,
 oG 18 19 (.un .not) [17] 15 true,
 ⟨(some 19),20,.pick,[.t 15,.t 18,.c (.bool false)],none⟩,
 oT 2 21 .move [19]])
 (.ret)))
 [.tmp 2] 0 19
def f48.env:Env:=[(66,f66.C)]
def f48.tree (a:ByteArray):Prop:=Br (!(a.toList==ByteArray.empty.toList)) (Br (decide ((a.size:Int)≤(16:Int))) (Br (decide ((0:Int)≤(0:Int))&&decide ((0:Int) < (a.size:Int))) (Br ((bAt a (0:Int)) != (45:Int)) (∃ c8:ByteArray,(a=c8)∧(DEqs [] [])∧(dX c8)∧((!(m5 c8))=(bF a))∧True) ((false=(bF a))∧True)) False) ((false=(bF a))∧True)) ((false=(bF a))∧True)
def f48.vc (a:ByteArray):Prop:=((¬(a=ByteArray.empty)→(((a.size:Int)≤(16:Int)→((0:Int) < (a.size:Int)∧((¬(bAt a (0:Int))=(45:Int)→(dX a∧((!(m5 a))=bF a)))∧(¬(¬(bAt a (0:Int))=(45:Int))→(false=bF a)))))∧(¬((a.size:Int)≤(16:Int))→(false=bF a))))∧(¬(¬(a=ByteArray.empty))→(false=bF a)))
set_option maxRecDepth 100000 in
set_option maxHeartbeats 2000000 in
theorem f48.of (a:ByteArray) (h:f48.vc a):f48.tree a:=br h (Cnd.not Cnd.seq) (fun h1 k19=>br k19 Cnd.dec (fun h3 k16=>chk k16.2 Cnd.ix ⟨(by decide),k16.1⟩ (fun h5 k14=>br k14 Cnd.ne (fun h6 k12=>⟨a,⟨rfl,⟨(DEqs.refl _),⟨k12.1,⟨k12.2,trivial⟩⟩⟩⟩⟩) (fun h7 k13=>⟨k13,trivial⟩))) (fun h4 k17=>⟨k17,trivial⟩)) (fun h2 k20=>⟨k20,trivial⟩)
theorem f48.eq (a:ByteArray):(f48.af a).gives f48.env (f48.args a) (f48.blks a) (f48.res a) (f48.blks' a)=f48.tree a:=by kernel_rfl
end Go.Abs

-- interregnum/interregnumref04.Name
namespace Go.Abs
open Go
def f58.args (a:ByteArray):List D:=[.str a]
def f58.blks (a:ByteArray):List (List D):=[]
def f58.res (a:ByteArray):List D:=[.bool (bF a)]
def f58.blks' (a:ByteArray):List (List D):=[]
def f58.C:aL:=FnC f58.args f58.blks (fun a=>bU a) f58.res f58.blks'
end Go.Abs

/- interregnum/interregnumref04.Name -/
namespace Go.Abs
open Go
set_option linter.unusedVariables false
def f58.S0 (a:ByteArray) (x:Int):Tm:=⟨[.str a,.dead,.dead,.int .i64 x,.dead,.dead,.dead,.dead,.dead,.dead,.dead,.dead,.dead,.dead,.dead,.dead,.dead,.dead,.dead,.dead,.dead,.dead,.dead,.dead,.dead,.dead,.dead,.dead,.dead,.dead,.dead,.dead,.dead,.dead,.dead,.dead,.dead,.dead,.dead,.dead,.dead,.dead,.dead,.dead,.dead],[],[]⟩
def f58.kills (a:ByteArray):List Hint:=[.tell Int (f58.S0 a)]
def f58.cuts (a:ByteArray):List (Nat×Σ β:Type,β→Tm):=[]
def f58.af (a:ByteArray):AF:=AF.mk (.seq (.region [⟨(some 2),0,.move,[.c (.bool false)],none⟩])
 (.seq (.seq (.region [oT 5 1 .move [0],
 oT 6 2 (.len true) [5],
 ⟨(some 7),3,(.bin .lss),[.t 6,.c (.int .i64 (1))],none⟩,
 oT 8 4 .move [7],
 oG 9 5 .move [0] 8 false,
 oG 10 6 (.len true) [9] 8 false,
 ⟨(some 11),7,(.bin .gtr),[.t 10,.c (.int .i64 (16))],(some (8,false))⟩,
 ⟨(some 12),8,.pick,[.t 8,.c (.bool true),.t 11],none⟩,
 oT 13 9 .move [12],
 oG 14 10 .move [0] 13 false,
 ⟨(some 15),11,.indexStr,[.t 14,.c (.int .i64 (0))],(some (13,false))⟩,
 ⟨(some 16),12,(.bin .eql),[.t 15,.c (.int .u8 (45))],(some (13,false))⟩,
 ⟨(some 17),13,.pick,[.t 13,.c (.bool true),.t 16],none⟩])
 (.cond (.t 17) (.seq (.region [⟨(some 2),14,.move,[.c (.bool false)],none⟩])
 (.ret)) (.skip)))
 (.seq (.seq (.region [⟨(some 3),15,.move,[.c (.int .i64 (0))],none⟩])
 (.block 0 (.loopT Int (f58.S0 a) 16 46 (.seq (.seq (.region [oT 18 16 .move [3],
 oT 19 17 .move [0],
 oT 20 18 (.len true) [19],
 oT 21 19 (.bin .lss) [18,20]])
 (.cond (.t 21) (.skip) (.exit 0)))
 (.seq (.block 1 (.seq (.region [oT 24 20 .move [0],
 oT 25 21 .move [3],
 oT 26 22 .indexStr [24,25],
 oT 4 23 .move [26]])
 (.seq (.region [oT 27 24 .move [4],
 ⟨(some 28),25,(.bin .lss),[.t 27,.c (.int .u8 (97))],none⟩,
 oT 29 26 .move [28],
 oG 30 27 .move [4] 29 false,
 ⟨(some 31),28,(.bin .gtr),[.t 30,.c (.int .u8 (122))],(some (29,false))⟩,
 ⟨(some 32),29,.pick,[.t 29,.c (.bool true),.t 31],none⟩,
 oT 33 30 .move [32],
 oG 34 31 .move [4] 33 true,
 ⟨(some 35),32,(.bin .lss),[.t 34,.c (.int .u8 (48))],(some (33,true))⟩,
 oG 36 33 .move [35] 33 true,
 oG 37 34 .move [4] 36 false,
 ⟨(some 38),35,(.bin .gtr),[.t 37,.c (.int .u8 (57))],(some (36,false))⟩,
 ⟨(some 39),36,.pick,[.t 36,.c (.bool true),.t 38],(some (33,true))⟩,
 ⟨(some 40),37,.pick,[.t 33,.t 39,.c (.bool false)],none⟩,
 oT 41 38 .move [40],
 oG 42 39 .move [4] 41 true,
 ⟨(some 43),40,(.bin .neq),[.t 42,.c (.int .u8 (45))],(some (41,true))⟩,
 ⟨(some 44),41,.pick,[.t 41,.t 43,.c (.bool false)],none⟩])
 (.cond (.t 44) (.seq (.region [⟨(some 2),42,.move,[.c (.bool false)],none⟩])
 (.ret)) (.skip)))))
 (.region [oT 22 43 .move [3],
 ⟨(some 23),44,(.bin .add),[.t 22,.c (.int .i64 (1))],none⟩,
 oT 3 45 .move [23]]))))))
 (.seq (.region [⟨(some 2),46,.move,[.c (.bool true)],none⟩])
 (.ret)))))
 [.tmp 2] 0 44
def f58.env:Env:=[]
def f58.tree (a:ByteArray):Prop:=Br (decide ((a.size:Int) < (1:Int))) ((false=(bF a))∧True) (Br (decide ((16:Int) < (a.size:Int))) ((false=(bF a))∧True) (Br (decide ((0:Int)≤(0:Int))&&decide ((0:Int) < (a.size:Int))) (Br ((bAt a (0:Int))==(45:Int)) ((false=(bF a))∧True) (∃ (I12:Int→Prop) (μ13:Int→Nat),(∃ x11:Int,(a=a)∧((0:Int)=x11)∧I12 x11)∧∀ y14:Int,I12 y14→(Br (decide (y14 < (a.size:Int))) (Br (decide ((0:Int)≤y14)&&decide (y14 < (a.size:Int))) (Br (decide ((bAt a y14) < (97:Int))) (Br (decide ((bAt a y14) < (48:Int))) (Br ((bAt a y14) != (45:Int)) ((false=(bF a))∧True) (Let (IntKind.i64.wrap (y14+(1:Int))) (fun v25:Int=>∃ x26:Int,(a=a)∧(v25=x26)∧I12 x26∧μ13 x26 < μ13 y14))) (Br (decide ((57:Int) < (bAt a y14))) (Br ((bAt a y14) != (45:Int)) ((false=(bF a))∧True) (Let (IntKind.i64.wrap (y14+(1:Int))) (fun v38:Int=>∃ x39:Int,(a=a)∧(v38=x39)∧I12 x39∧μ13 x39 < μ13 y14))) (Let (IntKind.i64.wrap (y14+(1:Int))) (fun v46:Int=>∃ x47:Int,(a=a)∧(v46=x47)∧I12 x47∧μ13 x47 < μ13 y14)))) (Br (decide ((122:Int) < (bAt a y14))) (Br (decide ((bAt a y14) < (48:Int))) (Br ((bAt a y14) != (45:Int)) ((false=(bF a))∧True) (Let (IntKind.i64.wrap (y14+(1:Int))) (fun v63:Int=>∃ x64:Int,(a=a)∧(v63=x64)∧I12 x64∧μ13 x64 < μ13 y14))) (Br (decide ((57:Int) < (bAt a y14))) (Br ((bAt a y14) != (45:Int)) ((false=(bF a))∧True) (Let (IntKind.i64.wrap (y14+(1:Int))) (fun v76:Int=>∃ x77:Int,(a=a)∧(v76=x77)∧I12 x77∧μ13 x77 < μ13 y14))) (Let (IntKind.i64.wrap (y14+(1:Int))) (fun v84:Int=>∃ x85:Int,(a=a)∧(v84=x85)∧I12 x85∧μ13 x85 < μ13 y14)))) (Let (IntKind.i64.wrap (y14+(1:Int))) (fun v94:Int=>∃ x95:Int,(a=a)∧(v94=x95)∧I12 x95∧μ13 x95 < μ13 y14)))) False) ((true=(bF a))∧True)))) False))
def f58.vc (a:ByteArray):Prop:=(((a.size:Int) < (1:Int)→(false=bF a))∧(¬((a.size:Int) < (1:Int))→(((16:Int) < (a.size:Int)→(false=bF a))∧(¬((16:Int) < (a.size:Int))→((0:Int) < (a.size:Int)∧(((bAt a (0:Int))=(45:Int)→(false=bF a))∧(¬((bAt a (0:Int))=(45:Int))→(∃ (I12:Int→Prop) (μ13:Int→Nat),I12 (0:Int)∧∀ y14:Int,I12 y14→((y14 < (a.size:Int)→((0:Int)≤y14∧y14 < (a.size:Int)∧(((bAt a y14) < (97:Int)→(((bAt a y14) < (48:Int)→((¬(bAt a y14)=(45:Int)→(false=bF a))∧(¬(¬(bAt a y14)=(45:Int))→(-9223372036854775808≤(y14+(1:Int))∧(y14+(1:Int))≤9223372036854775807∧(I12 (y14+(1:Int))∧μ13 (y14+(1:Int)) < μ13 y14)))))∧(¬((bAt a y14) < (48:Int))→(((57:Int) < (bAt a y14)→((¬(bAt a y14)=(45:Int)→(false=bF a))∧(¬(¬(bAt a y14)=(45:Int))→(-9223372036854775808≤(y14+(1:Int))∧(y14+(1:Int))≤9223372036854775807∧(I12 (y14+(1:Int))∧μ13 (y14+(1:Int)) < μ13 y14)))))∧(¬((57:Int) < (bAt a y14))→(-9223372036854775808≤(y14+(1:Int))∧(y14+(1:Int))≤9223372036854775807∧(I12 (y14+(1:Int))∧μ13 (y14+(1:Int)) < μ13 y14)))))))∧(¬((bAt a y14) < (97:Int))→(((122:Int) < (bAt a y14)→(((bAt a y14) < (48:Int)→((¬(bAt a y14)=(45:Int)→(false=bF a))∧(¬(¬(bAt a y14)=(45:Int))→(-9223372036854775808≤(y14+(1:Int))∧(y14+(1:Int))≤9223372036854775807∧(I12 (y14+(1:Int))∧μ13 (y14+(1:Int)) < μ13 y14)))))∧(¬((bAt a y14) < (48:Int))→(((57:Int) < (bAt a y14)→((¬(bAt a y14)=(45:Int)→(false=bF a))∧(¬(¬(bAt a y14)=(45:Int))→(-9223372036854775808≤(y14+(1:Int))∧(y14+(1:Int))≤9223372036854775807∧(I12 (y14+(1:Int))∧μ13 (y14+(1:Int)) < μ13 y14)))))∧(¬((57:Int) < (bAt a y14))→(-9223372036854775808≤(y14+(1:Int))∧(y14+(1:Int))≤9223372036854775807∧(I12 (y14+(1:Int))∧μ13 (y14+(1:Int)) < μ13 y14)))))))∧(¬((122:Int) < (bAt a y14))→(-9223372036854775808≤(y14+(1:Int))∧(y14+(1:Int))≤9223372036854775807∧(I12 (y14+(1:Int))∧μ13 (y14+(1:Int)) < μ13 y14))))))))∧(¬(y14 < (a.size:Int))→(true=bF a)))))))))))
set_option maxRecDepth 100000 in
set_option maxHeartbeats 2000000 in
theorem f58.of (a:ByteArray) (h:f58.vc a):f58.tree a:=br h Cnd.dec (fun h1 k116=>⟨k116,trivial⟩) (fun h2 k117=>br k117 Cnd.dec (fun h4 k114=>⟨k114,trivial⟩) (fun h5 k115=>chk k115.2 Cnd.ix ⟨(by decide),k115.1⟩ (fun h7 k113=>br k113 Cnd.eq (fun h8 k111=>⟨k111,trivial⟩) (fun h9 k112=>Exists.elim k112 (fun I12 h108_=>Exists.elim h108_ (fun μ13 h108=>⟨I12,μ13,⟨(0:Int),⟨rfl,⟨rfl,h108.1⟩⟩⟩,fun y14 h110=>br (h108.2 y14 h110) Cnd.dec (fun h15 k106=>chk k106.2.2 Cnd.ix ⟨k106.1,k106.2.1⟩ (fun h17 k104=>br k104 Cnd.dec (fun h18 k102=>br k102 Cnd.dec (fun h20 k54=>br k54 Cnd.ne (fun h22 k31=>⟨k31,trivial⟩) (fun h23 k32=>wrapK.i64 k32 (fun h28 h29 k30=>⟨(y14+(1:Int)),⟨rfl,⟨rfl,k30⟩⟩⟩))) (fun h21 k55=>br k55 Cnd.dec (fun h33 k52=>br k52 Cnd.ne (fun h35 k44=>⟨k44,trivial⟩) (fun h36 k45=>wrapK.i64 k45 (fun h41 h42 k43=>⟨(y14+(1:Int)),⟨rfl,⟨rfl,k43⟩⟩⟩))) (fun h34 k53=>wrapK.i64 k53 (fun h49 h50 k51=>⟨(y14+(1:Int)),⟨rfl,⟨rfl,k51⟩⟩⟩)))) (fun h19 k103=>br k103 Cnd.dec (fun h56 k100=>br k100 Cnd.dec (fun h58 k92=>br k92 Cnd.ne (fun h60 k69=>⟨k69,trivial⟩) (fun h61 k70=>wrapK.i64 k70 (fun h66 h67 k68=>⟨(y14+(1:Int)),⟨rfl,⟨rfl,k68⟩⟩⟩))) (fun h59 k93=>br k93 Cnd.dec (fun h71 k90=>br k90 Cnd.ne (fun h73 k82=>⟨k82,trivial⟩) (fun h74 k83=>wrapK.i64 k83 (fun h79 h80 k81=>⟨(y14+(1:Int)),⟨rfl,⟨rfl,k81⟩⟩⟩))) (fun h72 k91=>wrapK.i64 k91 (fun h87 h88 k89=>⟨(y14+(1:Int)),⟨rfl,⟨rfl,k89⟩⟩⟩)))) (fun h57 k101=>wrapK.i64 k101 (fun h97 h98 k99=>⟨(y14+(1:Int)),⟨rfl,⟨rfl,k99⟩⟩⟩))))) (fun h16 k107=>⟨k107,trivial⟩)⟩))))))
theorem f58.eq (a:ByteArray):(f58.af a).gives f58.env (f58.args a) (f58.blks a) (f58.res a) (f58.blks' a)=f58.tree a:=by kernel_rfl
end Go.Abs

-- interregnum/ident.Labels
namespace Go.Abs
open Go
def f50.ent (K:(List (aC))→Prop) (t:List (aC)):Prop:=∃ c:List (aC),SlQ t.length c.length (gl aE t) (gl aE c) (K c)
theorem f50.ei {K:(List (aC))→Prop} {t:List (aC)} (h:K t):f50.ent K t:=⟨t,slQ (Rds.self (enc:=aE)) (h)⟩
def f50.args (a:List (aC)):List D:=[.slice .ro 2 a.length (gl aE a)]
def f50.blks (a:List (aC)):List (List D):=[]
def f50.res (a:List (aC)):List D:=[.bool (bB a)]
def f50.blks' (a:List (aC)):List (List D):=[]
def f50.C:aL:=FnC f50.args f50.blks (fun a=>dQ a) f50.res f50.blks'
end Go.Abs

/- interregnum/ident.Labels -/
namespace Go.Abs
open Go
set_option linter.unusedVariables false
def f50.S0 (a:List (aC)) (x:ByteArray×Int):Tm:=⟨[.dead,.dead,.dead,.str x.1,.dead,.dead,.dead,.dead,.dead,.slice .ro 2 a.length (gl aE a),.int .i64 (a.length:Int),.int .i64 x.2,.dead,.dead,.dead,.dead,.dead,.dead,.dead,.dead,.dead,.dead,.dead,.dead,.dead,.dead,.dead,.dead,.dead,.dead,.dead,.dead,.dead,.dead,.dead,.dead,.dead,.dead,.dead],[],[]⟩
def f50.kills (a:List (aC)):List Hint:=[.tell (ByteArray×Int) (f50.S0 a)]
def f50.cuts (a:List (aC)):List (Nat×Σ β:Type,β→Tm):=[]
def f50.af (a:List (aC)):AF:=AF.mk (.seq (.region [⟨(some 2),0,.move,[.c (.bool false)],none⟩])
 (.seq (.seq (.region [oT 6 1 .move [0],
 oT 7 2 (.len false) [6],
 ⟨(some 8),3,(.bin .gtr),[.t 7,.c (.int .i64 (4))],none⟩])
 (.cond (.t 8) (.seq (.region [⟨(some 2),4,.move,[.c (.bool false)],none⟩])
 (.ret)) (.skip)))
 (.seq (.region [⟨(some 3),5,.move,[.c (.str ByteArray.empty)],none⟩])
 (.seq (.seq (.region [oT 9 6 .move [0],
 oT 10 7 (.len false) [9],
 ⟨(some 11),8,.move,[.c (.int .i64 (0))],none⟩])
 (.block 0 (.loopT (ByteArray×Int) (f50.S0 a) 9 50 (.seq (.region [oT 12 9 (.bin .lss) [11,10]])
 (.seq (.cond (.t 12) (.skip) (.exit 0))
 (.seq (.block 1 (.seq (.region [oT 13 10 .move [11],
 oT 14 11 (.indexAddr 2 none) [9,11],
 oT 15 12 (.load true 2) [14],
 oT 5 13 (.alloc [.str ByteArray.empty,.str ByteArray.empty]) [],
 oT 4 16 .move [13],
 ⟨none,17,(.store 2),[.t 5,.t 15],none⟩])
 (.seq (.seq (.region [oT 16 18 (.fieldAddr 0) [5],
 oT 17 19 (.load false 1) [16],
 oT 18 20 (.call false 48) [17],
 oT 19 24 (.un .not) [18],
 oT 20 25 .move [19],
 oG 21 26 (.fieldAddr 1) [5] 20 false,
 oG 22 27 (.load false 1) [21] 20 false,
 oG 23 28 (.call false 48) [22] 20 false,
 oG 24 32 (.un .not) [23] 20 false,
 ⟨(some 25),33,.pick,[.t 20,.c (.bool true),.t 24],none⟩,
 oT 26 34 .move [25],
 oG 27 35 .move [4] 26 false,
 ⟨(some 28),36,(.bin .gtr),[.t 27,.c (.int .i64 (0))],(some (26,false))⟩,
 oG 29 37 .move [28] 26 false,
 oG 30 38 (.fieldAddr 0) [5] 29 true,
 oG 31 39 (.load false 1) [30] 29 true,
 oG 32 40 .move [3] 29 true,
 oG 33 41 (.bin .leq) [31,32] 29 true,
 ⟨(some 34),42,.pick,[.t 29,.t 33,.c (.bool false)],(some (26,false))⟩,
 ⟨(some 35),43,.pick,[.t 26,.c (.bool true),.t 34],none⟩])
 (.cond (.t 35) (.seq (.region [⟨(some 2),44,.move,[.c (.bool false)],none⟩])
 (.ret)) (.skip)))
 (.region [oT 36 45 (.fieldAddr 0) [5],
 oT 37 46 (.load false 1) [36],
 oT 3 47 .move [37]]))))
 (.region [⟨(some 38),48,(.bin .add),[.t 11,.c (.int .i64 (1))],none⟩,
 oT 11 49 .move [38]])))))))
 (.seq (.region [⟨(some 2),50,.move,[.c (.bool true)],none⟩])
 (.ret))))))
 [.tmp 2] 0 38
def f50.env:Env:=[(48,f48.C)]
def f50.tree (a:List (aC)):Prop:=Br (decide ((4:Int) < (a.length:Int))) ((false=(bB a))∧True) (∃ (I5:(ByteArray×Int)→Prop) (μ6:(ByteArray×Int)→Nat),(∃ x4:ByteArray×Int,(ByteArray.empty=x4.1)∧SlS aE a (((a.length:Int)=(a.length:Int))∧((0:Int)=x4.2)∧I5 x4))∧∀ y7:ByteArray×Int,I5 y7→(Br (decide (y7.2 < (a.length:Int))) (Br (decide ((0:Int)≤y7.2)&&decide (y7.2 < (a.length:Int))) (∃ c11:ByteArray,(((at_ a y7.2).1)=c11)∧(bU c11)∧Br (!(bF c11)) ((false=(bB a))∧True) (∃ c15:ByteArray,(((at_ a y7.2).2)=c15)∧(bU c15)∧Br (!(bF c15)) ((false=(bB a))∧True) (Br (decide ((0:Int) < y7.2)) (Br (Op.bytesLess ((at_ a y7.2).1).toList y7.1.toList || ((at_ a y7.2).1).toList==y7.1.toList) ((false=(bB a))∧True) (Let (IntKind.i64.wrap (y7.2+(1:Int))) (fun v24:Int=>∃ x25:ByteArray×Int,(((at_ a y7.2).1)=x25.1)∧SlS aE a (((a.length:Int)=(a.length:Int))∧(v24=x25.2)∧I5 x25∧μ6 x25 < μ6 y7)))) (Let (IntKind.i64.wrap (y7.2+(1:Int))) (fun v32:Int=>∃ x33:ByteArray×Int,(((at_ a y7.2).1)=x33.1)∧SlS aE a (((a.length:Int)=(a.length:Int))∧(v32=x33.2)∧I5 x33∧μ6 x33 < μ6 y7)))))) False) ((true=(bB a))∧True)))
def f50.vc (a:List (aC)):Prop:=(((4:Int) < (a.length:Int)→(false=bB a))∧(¬((4:Int) < (a.length:Int))→(∃ (I5:(ByteArray×Int)→Prop) (μ6:(ByteArray×Int)→Nat),I5 (ByteArray.empty,(0:Int))∧∀ y7:ByteArray×Int,I5 y7→((y7.2 < (a.length:Int)→((0:Int)≤y7.2∧y7.2 < (a.length:Int)∧(bU ((at_ a y7.2).1)∧((¬((bF ((at_ a y7.2).1))=true)→(false=bB a))∧(¬(¬((bF ((at_ a y7.2).1))=true))→(bU ((at_ a y7.2).2)∧((¬((bF ((at_ a y7.2).2))=true)→(false=bB a))∧(¬(¬((bF ((at_ a y7.2).2))=true))→(((0:Int) < y7.2→((sLe ((at_ a y7.2).1) y7.1→(false=bB a))∧(¬(sLe ((at_ a y7.2).1) y7.1)→(-9223372036854775808≤(y7.2+(1:Int))∧(y7.2+(1:Int))≤9223372036854775807∧(I5 ((at_ a y7.2).1,(y7.2+(1:Int)))∧μ6 ((at_ a y7.2).1,(y7.2+(1:Int))) < μ6 y7)))))∧(¬((0:Int) < y7.2)→(-9223372036854775808≤(y7.2+(1:Int))∧(y7.2+(1:Int))≤9223372036854775807∧(I5 ((at_ a y7.2).1,(y7.2+(1:Int)))∧μ6 ((at_ a y7.2).1,(y7.2+(1:Int))) < μ6 y7))))))))))))∧(¬(y7.2 < (a.length:Int))→(true=bB a))))))
set_option maxRecDepth 100000 in
set_option maxHeartbeats 2000000 in
theorem f50.of (a:List (aC)) (h:f50.vc a):f50.tree a:=br h Cnd.dec (fun h1 k53=>⟨k53,trivial⟩) (fun h2 k54=>Exists.elim k54 (fun I5 h50_=>Exists.elim h50_ (fun μ6 h50=>⟨I5,μ6,⟨(ByteArray.empty,(0:Int)),⟨rfl,SlS.mk  (⟨rfl,⟨rfl,h50.1⟩⟩)⟩⟩,fun y7 h52=>br (h50.2 y7 h52) Cnd.dec (fun h8 k48=>chk k48.2.2 Cnd.ix ⟨k48.1,k48.2.1⟩ (fun h10 k46=>⟨(at_ a y7.2).1,⟨rfl,⟨k46.1,br k46.2 (Cnd.not Cnd.b) (fun h12 k43=>⟨k43,trivial⟩) (fun h13 k44=>⟨(at_ a y7.2).2,⟨rfl,⟨k44.1,br k44.2 (Cnd.not Cnd.b) (fun h16 k40=>⟨k40,trivial⟩) (fun h17 k41=>br k41 Cnd.dec (fun h19 k38=>br k38 Cnd.sle (fun h21 k30=>⟨k30,trivial⟩) (fun h22 k31=>wrapK.i64 k31 (fun h27 h28 k29=>⟨((at_ a y7.2).1,(y7.2+(1:Int))),⟨rfl,SlS.mk  (⟨rfl,⟨rfl,k29⟩⟩)⟩⟩))) (fun h20 k39=>wrapK.i64 k39 (fun h35 h36 k37=>⟨((at_ a y7.2).1,(y7.2+(1:Int))),⟨rfl,SlS.mk  (⟨rfl,⟨rfl,k37⟩⟩)⟩⟩)))⟩⟩⟩)⟩⟩⟩)) (fun h9 k49=>⟨k49,trivial⟩)⟩)))
theorem f50.eq (a:List (aC)):(f50.af a).gives f50.env (f50.args a) (f50.blks a) (f50.res a) (f50.blks' a)=f50.tree a:=by kernel_rfl
end Go.Abs

-- interregnum/interregnumref04.Labels
namespace Go.Abs
open Go
def f59.ent (K:(List (aC))→Prop) (t:List (aC)):Prop:=∃ c:List (aC),SlQ t.length c.length (gl aE t) (gl aE c) (K c)
theorem f59.ei {K:(List (aC))→Prop} {t:List (aC)} (h:K t):f59.ent K t:=⟨t,slQ (Rds.self (enc:=aE)) (h)⟩
def f59.args (a:List (aC)):List D:=[.slice .ro 2 a.length (gl aE a)]
def f59.blks (a:List (aC)):List (List D):=[]
def f59.res (a:List (aC)):List D:=[.bool (bB a)]
def f59.blks' (a:List (aC)):List (List D):=[]
def f59.C:aL:=FnC f59.args f59.blks (fun a=>dQ a) f59.res f59.blks'
end Go.Abs

/- interregnum/interregnumref04.Labels -/
namespace Go.Abs
open Go
set_option linter.unusedVariables false
def f59.S0 (a:List (aC)) (x:Int):Tm:=⟨[.slice .ro 2 a.length (gl aE a),.dead,.dead,.dead,.dead,.dead,.dead,.dead,.int .i64 (a.length:Int),.int .i64 x,.dead,.dead,.dead,.dead,.dead,.dead,.dead,.dead,.dead,.dead,.dead,.dead,.dead,.dead,.dead,.dead,.dead,.dead,.dead,.dead,.dead,.dead,.dead,.dead,.dead,.dead,.dead,.dead,.dead,.dead,.dead,.dead,.dead,.dead,.dead,.dead,.dead],[],[]⟩
def f59.kills (a:List (aC)):List Hint:=[.tell Int (f59.S0 a)]
def f59.cuts (a:List (aC)):List (Nat×Σ β:Type,β→Tm):=[]
def f59.af (a:List (aC)):AF:=AF.mk (.seq (.region [⟨(some 2),0,.move,[.c (.bool false)],none⟩])
 (.seq (.seq (.region [oT 4 1 .move [0],
 oT 5 2 (.len false) [4],
 ⟨(some 6),3,(.bin .gtr),[.t 5,.c (.int .i64 (4))],none⟩])
 (.cond (.t 6) (.seq (.region [⟨(some 2),4,.move,[.c (.bool false)],none⟩])
 (.ret)) (.skip)))
 (.seq (.seq (.region [oT 7 5 .move [0],
 oT 8 6 (.len false) [7],
 ⟨(some 9),7,.move,[.c (.int .i64 (0))],none⟩])
 (.block 0 (.loopT Int (f59.S0 a) 8 54 (.seq (.region [oT 10 8 (.bin .lss) [9,8]])
 (.seq (.cond (.t 10) (.skip) (.exit 0))
 (.seq (.block 1 (.seq (.region [oT 11 9 .move [9],
 oT 3 10 .move [11]])
 (.seq (.region [oT 12 11 .move [0],
 oT 13 12 .move [3],
 oT 14 13 (.indexAddr 2 none) [12,13],
 oT 15 14 (.fieldAddr 0) [14],
 oT 16 15 (.load false 1) [15],
 oT 17 16 (.call false 58) [16],
 oT 18 20 (.un .not) [17],
 oT 19 21 .move [18],
 oG 20 22 .move [0] 19 false,
 oG 21 23 .move [3] 19 false,
 oG 22 24 (.indexAddr 2 none) [20,21] 19 false,
 oG 23 25 (.fieldAddr 1) [22] 19 false,
 oG 24 26 (.load false 1) [23] 19 false,
 oG 25 27 (.call false 58) [24] 19 false,
 oG 26 31 (.un .not) [25] 19 false,
 ⟨(some 27),32,.pick,[.t 19,.c (.bool true),.t 26],none⟩,
 oT 28 33 .move [27],
 oG 29 34 .move [3] 28 false,
 ⟨(some 30),35,(.bin .gtr),[.t 29,.c (.int .i64 (0))],(some (28,false))⟩,
 oG 31 36 .move [30] 28 false,
 oG 32 37 .move [0] 31 true,
 oG 33 38 .move [3] 31 true,
 ⟨(some 34),39,(.bin .sub),[.t 33,.c (.int .i64 (1))],(some (31,true))⟩,
 oG 35 40 (.indexAddr 2 none) [32,34] 31 true,
 oG 36 41 (.fieldAddr 0) [35] 31 true,
 oG 37 42 (.load false 1) [36] 31 true,
 oG 38 43 .move [0] 31 true,
 oG 39 44 .move [3] 31 true,
 oG 40 45 (.indexAddr 2 none) [38,39] 31 true,
 oG 41 46 (.fieldAddr 0) [40] 31 true,
 oG 42 47 (.load false 1) [41] 31 true,
 oG 43 48 (.bin .geq) [37,42] 31 true,
 ⟨(some 44),49,.pick,[.t 31,.t 43,.c (.bool false)],(some (28,false))⟩,
 ⟨(some 45),50,.pick,[.t 28,.c (.bool true),.t 44],none⟩])
 (.cond (.t 45) (.seq (.region [⟨(some 2),51,.move,[.c (.bool false)],none⟩])
 (.ret)) (.skip)))))
 (.region [⟨(some 46),52,(.bin .add),[.t 9,.c (.int .i64 (1))],none⟩,
 oT 9 53 .move [46]])))))))
 (.seq (.region [⟨(some 2),54,.move,[.c (.bool true)],none⟩])
 (.ret)))))
 [.tmp 2] 0 46
def f59.env:Env:=[(58,f58.C)]
def f59.tree (a:List (aC)):Prop:=Br (decide ((4:Int) < (a.length:Int))) ((false=(bB a))∧True) (∃ (I5:Int→Prop) (μ6:Int→Nat),(∃ x4:Int,SlS aE a (((a.length:Int)=(a.length:Int))∧((0:Int)=x4)∧I5 x4))∧∀ y7:Int,I5 y7→(Br (decide (y7 < (a.length:Int))) (Br (decide ((0:Int)≤y7)&&decide (y7 < (a.length:Int))) (∃ c11:ByteArray,(((at_ a y7).1)=c11)∧(bU c11)∧Br (!(bF c11)) ((false=(bB a))∧True) (Br (decide ((0:Int)≤y7)&&decide (y7 < (a.length:Int))) (∃ c16:ByteArray,(((at_ a y7).2)=c16)∧(bU c16)∧Br (!(bF c16)) ((false=(bB a))∧True) (Br (decide ((0:Int) < y7)) (Let (IntKind.i64.wrap (y7 - (1:Int))) (fun v22:Int=>Br (decide ((0:Int)≤v22)&&decide (v22 < (a.length:Int))) (Br (decide ((0:Int)≤y7)&&decide (y7 < (a.length:Int))) (Br (!(Op.bytesLess ((at_ a v22).1).toList ((at_ a y7).1).toList)) ((false=(bB a))∧True) (Let (IntKind.i64.wrap (y7+(1:Int))) (fun v28:Int=>∃ x29:Int,SlS aE a (((a.length:Int)=(a.length:Int))∧(v28=x29)∧I5 x29∧μ6 x29 < μ6 y7)))) False) False)) (Let (IntKind.i64.wrap (y7+(1:Int))) (fun v41:Int=>∃ x42:Int,SlS aE a (((a.length:Int)=(a.length:Int))∧(v41=x42)∧I5 x42∧μ6 x42 < μ6 y7))))) False)) False) ((true=(bB a))∧True)))
def f59.vc (a:List (aC)):Prop:=(((4:Int) < (a.length:Int)→(false=bB a))∧(¬((4:Int) < (a.length:Int))→(∃ (I5:Int→Prop) (μ6:Int→Nat),I5 (0:Int)∧∀ y7:Int,I5 y7→((y7 < (a.length:Int)→((0:Int)≤y7∧y7 < (a.length:Int)∧(bU ((at_ a y7).1)∧((¬((bF ((at_ a y7).1))=true)→(false=bB a))∧(¬(¬((bF ((at_ a y7).1))=true))→((0:Int)≤y7∧y7 < (a.length:Int)∧(bU ((at_ a y7).2)∧((¬((bF ((at_ a y7).2))=true)→(false=bB a))∧(¬(¬((bF ((at_ a y7).2))=true))→(((0:Int) < y7→(-9223372036854775808≤(y7 - (1:Int))∧(y7 - (1:Int))≤9223372036854775807∧((0:Int)≤(y7 - (1:Int))∧(y7 - (1:Int)) < (a.length:Int)∧((0:Int)≤y7∧y7 < (a.length:Int)∧((¬sLt ((at_ a (y7 - (1:Int))).1) ((at_ a y7).1)→(false=bB a))∧(¬(¬sLt ((at_ a (y7 - (1:Int))).1) ((at_ a y7).1))→(-9223372036854775808≤(y7+(1:Int))∧(y7+(1:Int))≤9223372036854775807∧(I5 (y7+(1:Int))∧μ6 (y7+(1:Int)) < μ6 y7))))))))∧(¬((0:Int) < y7)→(-9223372036854775808≤(y7+(1:Int))∧(y7+(1:Int))≤9223372036854775807∧(I5 (y7+(1:Int))∧μ6 (y7+(1:Int)) < μ6 y7)))))))))))))∧(¬(y7 < (a.length:Int))→(true=bB a))))))
set_option maxRecDepth 100000 in
set_option maxHeartbeats 2000000 in
theorem f59.of (a:List (aC)) (h:f59.vc a):f59.tree a:=br h Cnd.dec (fun h1 k63=>⟨k63,trivial⟩) (fun h2 k64=>Exists.elim k64 (fun I5 h60_=>Exists.elim h60_ (fun μ6 h60=>⟨I5,μ6,⟨(0:Int),SlS.mk  (⟨rfl,⟨rfl,h60.1⟩⟩)⟩,fun y7 h62=>br (h60.2 y7 h62) Cnd.dec (fun h8 k58=>chk k58.2.2 Cnd.ix ⟨k58.1,k58.2.1⟩ (fun h10 k56=>⟨(at_ a y7).1,⟨rfl,⟨k56.1,br k56.2 (Cnd.not Cnd.b) (fun h12 k53=>⟨k53,trivial⟩) (fun h13 k54=>chk k54.2.2 Cnd.ix ⟨k54.1,k54.2.1⟩ (fun h15 k52=>⟨(at_ a y7).2,⟨rfl,⟨k52.1,br k52.2 (Cnd.not Cnd.b) (fun h17 k49=>⟨k49,trivial⟩) (fun h18 k50=>br k50 Cnd.dec (fun h20 k47=>wrapK.i64 k47 (fun h38 h39 k40=>chk k40.2.2 Cnd.ix ⟨k40.1,k40.2.1⟩ (fun h23 k37=>chk k37.2.2 Cnd.ix ⟨k37.1,k37.2.1⟩ (fun h24 k36=>br k36 (Cnd.not Cnd.sl_) (fun h25 k34=>⟨k34,trivial⟩) (fun h26 k35=>wrapK.i64 k35 (fun h31 h32 k33=>⟨(y7+(1:Int)),SlS.mk  (⟨rfl,⟨rfl,k33⟩⟩)⟩)))))) (fun h21 k48=>wrapK.i64 k48 (fun h44 h45 k46=>⟨(y7+(1:Int)),SlS.mk  (⟨rfl,⟨rfl,k46⟩⟩)⟩)))⟩⟩⟩))⟩⟩⟩)) (fun h9 k59=>⟨k59,trivial⟩)⟩)))
theorem f59.eq (a:List (aC)):(f59.af a).gives f59.env (f59.args a) (f59.blks a) (f59.res a) (f59.blks' a)=f59.tree a:=by kernel_rfl
end Go.Abs

-- interregnum/res.Right
namespace Go.Abs
open Go
end Go.Abs

/- interregnum/res.Right -/
namespace Go.Abs
open Go
set_option linter.unusedVariables false
end Go.Abs

-- interregnum/interregnumref03.Right
namespace Go.Abs
open Go
end Go.Abs

/- interregnum/interregnumref03.Right -/
namespace Go.Abs
open Go
set_option linter.unusedVariables false
end Go.Abs

-- interregnum/model.Node
namespace Go.Abs
open Go
end Go.Abs

/- interregnum/model.Node -/
namespace Go.Abs
open Go
set_option linter.unusedVariables false
end Go.Abs

-- interregnum/interregnumref05.Node
namespace Go.Abs
open Go
end Go.Abs

/- interregnum/interregnumref05.Node -/
namespace Go.Abs
open Go
set_option linter.unusedVariables false
end Go.Abs

-- interregnum/model.maybe
namespace Go.Abs
open Go
end Go.Abs

/- interregnum/model.maybe -/
namespace Go.Abs
open Go
set_option linter.unusedVariables false
end Go.Abs

-- interregnum/model.Task
namespace Go.Abs
open Go
end Go.Abs

/- interregnum/model.Task -/
namespace Go.Abs
open Go
set_option linter.unusedVariables false
end Go.Abs

-- interregnum/interregnumref05.Task
namespace Go.Abs
open Go
end Go.Abs

/- interregnum/interregnumref05.Task -/
namespace Go.Abs
open Go
set_option linter.unusedVariables false
end Go.Abs

/- Names,labels,tasks: what the code asks is so. -/
namespace Go.Abs
open Go

theorem d9 {s:ByteArray} (h:bF s≠true):false=bF s:=by
 cases hh:bF s with
 | false=>rfl
 | true=>exact absurd hh h

theorem f48.ok (a:ByteArray) (h:bU a):f48.vc a:=by
 unfold f48.vc
 refine ⟨fun h0=>⟨fun h1=>⟨?_,fun h2=>⟨h,?_⟩,fun h2=>?_⟩,fun h1=>?_⟩,fun h0=>?_⟩
 ·have:a.size≠0:=fun hh=>h0 (o6.2 hh)
  omega
 ·have hs:1≤a.size:=by
   have:a.size≠0:=fun hh=>h0 (o6.2 hh)
   omega
  rw [Bool.eq_iff_iff,Bool.not_eq_true',aAE,eC]
  exact ⟨fun h3=>⟨hs,by omega,h2,h3⟩,fun h3=>h3.2.2.2⟩
 ·exact d9 fun hh=>h2 (eC.1 hh).2.2.1
 ·exact d9 fun hh=>by have:=(eC.1 hh).2.1; omega
 ·have h0:=Classical.not_not.1 h0
  exact d9 fun hh=>by have:=(eC.1 hh).1; rw [o6.1 h0] at this; omega

theorem f58.ok (a:ByteArray) (h:bU a):f58.vc a:=by
 unfold bU at h
 unfold f58.vc
 refine ⟨fun h0=>d9 fun hh=>by have:=(eC.1 hh).1; omega,fun h0=>⟨fun h1=>d9 fun hh=>by have:=(eC.1 hh).2.1; omega,fun h1=>⟨by omega,fun h2=>d9 fun hh=>(eC.1 hh).2.2.1 h2,fun h2=>?_⟩⟩⟩
 refine ⟨fun y=>0≤y∧y≤(a.size:Int)∧∀ (i:Nat) (x:UInt8),i < y.toNat→a.data.toList[i]? = some x→ltr x=true,fun y=>a.size - y.toNat,⟨by omega,by omega,fun i x hi=>by simp at hi⟩,fun y hy=>?_⟩
 obtain ⟨g0,g1,g2⟩:=hy
 have hlen:=p8 a
 refine ⟨fun hlt=>⟨g0,hlt,?_⟩,fun hge=>?_⟩
 ·have hp:y.toNat < a.data.toList.length:=by omega
  have hb:bAt a y=((a.data.toList[y.toNat]'hp).toNat:Int):=by unfold bAt; rw [cR _ _ hp]
  have hbad:¬ltr (a.data.toList[y.toNat]'hp)=true→false=bF a:=fun hn=>d9 fun hh=>hn ((eC.1 hh).2.2.2 y.toNat _ (List.getElem?_eq_getElem hp))
  have hgood:ltr (a.data.toList[y.toNat]'hp)=true→-9223372036854775808≤(y+(1:Int))∧(y+(1:Int))≤9223372036854775807∧(0≤y+1∧y+1≤(a.size:Int)∧∀ (i:Nat) (x:UInt8),i < (y+1).toNat→a.data.toList[i]? = some x→ltr x=true)∧a.size - (y+1).toNat < a.size - y.toNat:=fun hg=>by
   refine ⟨by omega,by omega,⟨by omega,by omega,fun i x hi hx=>?_⟩,by omega⟩
   by_cases he:i=y.toNat
   ·subst he
    rw [List.getElem?_eq_getElem hp] at hx
    cases hx
    exact hg
   ·exact g2 i x (by omega) hx
  rw [aF1] at hbad hgood
  generalize a.data.toList[y.toNat]'hp=x at hb hbad hgood
  rw [hb]
  refine ⟨fun c1=>⟨fun c2=>⟨fun c3=>hbad (by omega),fun c3=>hgood (by omega)⟩,fun c2=>⟨fun c3=>⟨fun c4=>hbad (by omega),fun c4=>hgood (by omega)⟩,fun c3=>hgood (by omega)⟩⟩,
   fun c1=>⟨fun c2=>⟨fun c3=>⟨fun c4=>hbad (by omega),fun c4=>hgood (by omega)⟩,fun c3=>⟨fun c4=>⟨fun c5=>hbad (by omega),fun c5=>hgood (by omega)⟩,fun c4=>hgood (by omega)⟩⟩,fun c2=>hgood (by omega)⟩⟩
 ·symm
  rw [eC]
  exact ⟨by omega,by omega,h2,fun i x hx=>g2 i x (by have:=(List.getElem?_eq_some_iff.1 hx).1; omega) hx⟩

theorem fU {l:List cI} (h:bB l≠true):false=bB l:=by
 cases hh:bB l with
 | false=>rfl
 | true=>exact absurd hh h

theorem uJ {l:List cI} {i:Nat}:kB l i=true↔bF (l.getD i default).1=true∧bF (l.getD i default).2=true∧(i=0∨sLt (l.getD (i - 1) default).1 (l.getD i default).1):=by
 unfold kB
 simp only [Bool.and_eq_true,Bool.or_eq_true,beq_iff_eq,and_assoc,nI]

theorem f50.ok (a:List cI) (h:dQ a):f50.vc a:=by
 unfold f50.vc
 refine ⟨fun h0=>fU fun hh=>by have:=(eV.1 hh).1; omega,fun h0=>?_⟩
 refine ⟨fun y=>0≤y.2∧y.2≤(a.length:Int)∧(∀ i,i < y.2.toNat→kB a i=true)∧(0 < y.2→y.1=(at_ a (y.2 - 1)).1),fun y=>a.length - y.2.toNat,⟨by simp only; omega,by simp only; omega,fun i hi=>by simp at hi,fun h=>by simp at h⟩,fun y hy=>?_⟩
 obtain ⟨last,y⟩:=y
 obtain ⟨g0,g1,g2,g3⟩:=hy
 simp only at g0 g1 g2 g3 ⊢
 refine ⟨fun hlt=>?_,fun hge=>?_⟩
 ·obtain ⟨n1,n2⟩:=h _ (wP g0 hlt)
  have hbad:¬kB a y.toNat=true→false=bB a:=fun hn=>fU fun hh=>hn ((eV.1 hh).2 _ (by omega))
  have hgood:kB a y.toNat=true→-9223372036854775808≤(y+(1:Int))∧(y+(1:Int))≤9223372036854775807∧(0≤y+1∧y+1≤(a.length:Int)∧(∀ i,i < (y+1).toNat→kB a i=true)∧(0 < y+1→(at_ a y).1=(at_ a (y+1 - 1)).1))∧a.length - (y+1).toNat < a.length - y.toNat:=fun hg=>by
   refine ⟨by omega,by omega,⟨by omega,by omega,fun i hi=>?_,fun _=>by rw [Int.add_sub_cancel]⟩,by omega⟩
   by_cases he:i=y.toNat
   ·subst he; exact hg
   ·exact g2 i (by omega)
  rw [uJ,← qK] at hbad hgood
  have hprev:0 < y→(a.getD (y.toNat - 1) default)=at_ a (y - 1):=fun _=>by unfold at_; congr 1; omega
  refine ⟨g0,hlt,n1,fun c1=>hbad fun hh=>c1 hh.1,fun c1=>⟨n2,fun c2=>hbad fun hh=>c2 hh.2.1,fun c2=>⟨fun c3=>⟨fun c4=>?_,fun c4=>?_⟩,fun c3=>?_⟩⟩⟩
  ·refine hbad fun hh=>?_
   rcases hh.2.2 with h1 | h1
   ·omega
   ·rw [hprev c3,← g3 c3] at h1
    have:=qQ.2 c4
    rw [nI.2 h1] at this
    cases this
  ·refine hgood ⟨Classical.not_not.1 c1,Classical.not_not.1 c2,.inr ?_⟩
   rw [hprev c3,← g3 c3]
   cases hh:slt last (at_ a y).1 with
   | true=>exact nI.1 hh
   | false=>exact absurd (qQ.1 hh) c4
  ·exact hgood ⟨Classical.not_not.1 c1,Classical.not_not.1 c2,.inl (by omega)⟩
 ·symm
  rw [eV]
  exact ⟨by omega,fun i hi=>g2 i (by omega)⟩

theorem f59.ok (a:List cI) (h:dQ a):f59.vc a:=by
 unfold f59.vc
 refine ⟨fun h0=>fU fun hh=>by have:=(eV.1 hh).1; omega,fun h0=>?_⟩
 refine ⟨fun y=>0≤y∧y≤(a.length:Int)∧(∀ i,i < y.toNat→kB a i=true),fun y=>a.length - y.toNat,⟨by omega,by omega,fun i hi=>by simp at hi⟩,fun y hy=>?_⟩
 obtain ⟨g0,g1,g2⟩:=hy
 refine ⟨fun hlt=>?_,fun hge=>?_⟩
 ·obtain ⟨n1,n2⟩:=h _ (wP g0 hlt)
  have hbad:¬kB a y.toNat=true→false=bB a:=fun hn=>fU fun hh=>hn ((eV.1 hh).2 _ (by omega))
  have hgood:kB a y.toNat=true→-9223372036854775808≤(y+(1:Int))∧(y+(1:Int))≤9223372036854775807∧(0≤y+1∧y+1≤(a.length:Int)∧(∀ i,i < (y+1).toNat→kB a i=true))∧a.length - (y+1).toNat < a.length - y.toNat:=fun hg=>by
   refine ⟨by omega,by omega,⟨by omega,by omega,fun i hi=>?_⟩,by omega⟩
   by_cases he:i=y.toNat
   ·subst he; exact hg
   ·exact g2 i (by omega)
  rw [uJ,← qK] at hbad hgood
  have hprev:0 < y→(a.getD (y.toNat - 1) default)=at_ a (y - 1):=fun _=>by unfold at_; congr 1; omega
  refine ⟨g0,hlt,n1,fun c1=>hbad fun hh=>c1 hh.1,fun c1=>⟨g0,hlt,n2,fun c2=>hbad fun hh=>c2 hh.2.1,fun c2=>⟨fun c3=>⟨by omega,by omega,by omega,by omega,g0,hlt,fun c4=>?_,fun c4=>?_⟩,fun c3=>?_⟩⟩⟩
  ·refine hbad fun hh=>?_
   rcases hh.2.2 with h1 | h1
   ·omega
   ·rw [hprev c3] at h1
    exact c4 h1
  ·refine hgood ⟨Classical.not_not.1 c1,Classical.not_not.1 c2,.inr ?_⟩
   rw [hprev c3]
   exact Classical.not_not.1 c4
  ·exact hgood ⟨Classical.not_not.1 c1,Classical.not_not.1 c2,.inl (by omega)⟩
 ·symm
  rw [eV]
  exact ⟨by omega,fun i hi=>g2 i (by omega)⟩

end Go.Abs
