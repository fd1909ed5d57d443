/- Functions, and what the code asks of them: PModel. -/
import Derived.KernelRfl
import Derived.Test.YtabnaedcnfkmiaeVictimTellsP3
import Derived.Test.YtabnaedcnfkmiaeVictimTellsP4
set_option linter.unusedVariables false
set_option linter.unusedSimpArgs false
/- Names,labels,amounts,machines,queues,tasks: what can be,and their bytes. -/
namespace Go.Abs
open Go

abbrev b8:=Int×Int×Int
abbrev hO:=ByteArray×ByteArray
abbrev w5:=ByteArray×b8×List hO
abbrev bO:=ByteArray×ByteArray×Int×b8×List hO×ByteArray×ByteArray×Int
abbrev bQ:=bO×Int×ByteArray×Int

def slt (a b:ByteArray):Bool:=Op.bytesLess a.toList b.toList
def a9 (s:ByteArray):Bool:=decide (1≤s.size∧s.size≤16)&&(nth s.data.toList 0 0 != 45)&&s.data.toList.all ltr
def okN (n:Int):Bool:=decide (0≤n∧n≤1048576)
def aN (r:b8):Bool:=okN r.1&&okN r.2.1&&okN r.2.2
def mW (l:List hO) (i:Nat):Bool:=a9 (l.getD i default).1&&a9 (l.getD i default).2&&(i==0 || slt (l.getD (i - 1) default).1 (l.getD i default).1)
def bJ (l:List hO):Bool:=decide (l.length≤4)&&(List.range l.length).all (mW l)
def fI (n:w5):Bool:=a9 n.1&&aN n.2.1&&bJ n.2.2
def d8 (s:ByteArray):Bool:=s.size==0 || a9 s
def vK (g:ByteArray) (n:Int):Bool:=if g.size=0 then n==0 else decide (2≤n∧n≤4)
def bL (t:bO):Bool:=a9 t.1&&a9 t.2.1&&decide (0≤t.2.2.1∧t.2.2.1≤9)&&aN t.2.2.2.1&&bJ t.2.2.2.2.1&&d8 t.2.2.2.2.2.1&&d8 t.2.2.2.2.2.2.1&&vK t.2.2.2.2.2.2.1 t.2.2.2.2.2.2.2

def aY (s:ByteArray):Prop:=s.size≤1073741824
def eE (l:List hO):Prop:=∀ x∈l,x.1.size≤1073741824∧x.2.size≤1073741824
def fH (n:w5):Prop:=aY n.1∧eE n.2.2
def gJ (t:bO):Prop:=aY t.1∧aY t.2.1∧eE t.2.2.2.2.1∧aY t.2.2.2.2.2.1∧aY t.2.2.2.2.2.2.1

end Go.Abs

/- Names,labels,bytes of tasks: plain facts. -/
namespace Go.Abs
open Go

theorem kN:∀ x:List UInt8,Op.bytesLess x x=false
 | []=>rfl
 | a::x=>by
  have h:(a < a)=False:=by simp
  simp [Op.bytesLess,kN x]

theorem zP:∀ x y:List UInt8,Op.bytesLess x y=true∨x=y∨Op.bytesLess y x=true
 | [],[]=>.inr (.inl rfl)
 | [],_::_=>.inl rfl
 | _::_,[]=>.inr (.inr rfl)
 | a::x,b::y=>by
  simp only [Op.bytesLess,Bool.or_eq_true,Bool.and_eq_true,decide_eq_true_eq,beq_iff_eq,List.cons.injEq]
  rcases Nat.lt_trichotomy a.toNat b.toNat with h | h | h
  ·exact .inl (.inl (UInt8.lt_iff_toNat_lt.2 h))
  ·have h:a=b:=UInt8.toNat_inj.1 h
   subst h
   rcases zP x y with h | h | h
   ·exact .inl (.inr ⟨rfl,h⟩)
   ·exact .inr (.inl ⟨rfl,h⟩)
   ·exact .inr (.inr (.inr ⟨rfl,h⟩))
  ·exact .inr (.inr (.inl (UInt8.lt_iff_toNat_lt.2 h)))

theorem pU:∀ {x y z:List UInt8},Op.bytesLess x y=true→Op.bytesLess y z=true→Op.bytesLess x z=true
 | [],[],_,h,_=>by cases h
 | [],_::_,[],_,h=>by cases h
 | [],_::_,_::_,_,_=>rfl
 | _::_,[],_,h,_=>by cases h
 | _::_,_::_,[],_,h=>by cases h
 | a::x,b::y,c::z,h,k=>by
  simp only [Op.bytesLess,Bool.or_eq_true,Bool.and_eq_true,decide_eq_true_eq,beq_iff_eq] at h k ⊢
  rcases h with h | ⟨rfl,h⟩ <;> rcases k with k | ⟨rfl,k⟩
  ·exact .inl (UInt8.lt_trans h k)
  ·exact .inl h
  ·exact .inl k
  ·exact .inr ⟨rfl,pU h k⟩

theorem aB1 {x y:List UInt8} (h:Op.bytesLess x y=true):Op.bytesLess y x=false:=by
 cases hh:Op.bytesLess y x with
 | false=>rfl
 | true=>rw [← kN x,pU h hh]

theorem yZ {a b:ByteArray}:slt a b=true↔sLt a b:=Iff.rfl
theorem aDO {a b:ByteArray}:slt a b=false↔sLe b a:=by
 unfold slt sLe sLt
 constructor
 ·intro h
  rcases zP a.toList b.toList with h1 | h1 | h1
  ·rw [h] at h1; cases h1
  ·exact .inr (toList_inj.1 h1.symm)
  ·exact .inl h1
 ·rintro (h | rfl)
  ·exact aB1 h
  ·exact kN _

theorem aHH (x:UInt8):ltr x=true↔(97≤x.toNat∧x.toNat≤122)∨(48≤x.toNat∧x.toNat≤57)∨x.toNat=45:=by
 unfold ltr
 simp only [Bool.or_eq_true,Bool.and_eq_true,decide_eq_true_eq,beq_iff_eq,UInt8.le_iff_toNat_le,or_assoc]
 have:x=45↔x.toNat=45:=⟨fun h=>by subst h; rfl,fun h=>UInt8.toNat_inj.1 h⟩
 rw [this]
 rfl

theorem eV {a:ByteArray}:a=ByteArray.empty↔a.size=0:=⟨fun h=>by subst h; rfl,fun h=>r5 (by
 have:=tB a
 rw [h] at this
 rw [List.length_eq_zero_iff.1 this]; rfl)⟩

theorem gC {s:ByteArray}:a9 s=true↔1≤s.size∧s.size≤16∧bAt s 0≠45∧∀ (i:Nat) (x:UInt8),s.data.toList[i]? = some x→ltr x=true:=by
 unfold a9
 have e:nth s.data.toList 0 0≠45↔bAt s 0≠45:=by
  unfold bAt
  have:nth s.data.toList (Int.toNat 0) 0=45↔(nth s.data.toList (Int.toNat 0) 0).toNat=45:=⟨fun h=>by rw [h]; rfl,fun h=>UInt8.toNat_inj.1 h⟩
  show nth s.data.toList (Int.toNat 0) 0≠45↔_
  rw [Ne,this]
  omega
 simp only [Bool.and_eq_true,decide_eq_true_eq,bne_iff_ne,List.all_eq_true,e,and_assoc]
 constructor
 ·rintro ⟨h1,h2,h3,h4⟩
  exact ⟨h1,h2,h3,fun i x hx=>h4 x (List.mem_of_getElem? hx)⟩
 ·rintro ⟨h1,h2,h3,h4⟩
  exact ⟨h1,h2,h3,fun x hx=>by
   obtain ⟨i,hi⟩:=List.getElem?_of_mem hx
   exact h4 i x hi⟩

theorem aEU {l:List UInt8}:q9 l < 0↔∀ (i:Nat) (x:UInt8),l[i]? = some x→ltr x=true:=by
 unfold q9
 constructor
 ·intro h i x hx
  cases hf:l.findIdx? (fun x=>!ltr x) with
  | none =>
   have:=List.findIdx?_eq_none_iff.1 hf x (List.mem_of_getElem? hx)
   simpa using this
  | some j=>rw [hf] at h; simp only at h; omega
 ·intro h
  rw [List.findIdx?_eq_none_iff.2 fun x hx=>by
   obtain ⟨i,hi⟩:=List.getElem?_of_mem hx
   simp [h i x hi]]
  decide

theorem aCS {s:ByteArray}:pP s=false↔∀ (i:Nat) (x:UInt8),s.data.toList[i]? = some x→ltr x=true:=by
 unfold pP
 rw [decide_eq_false_iff_not,← aEU]
 omega

theorem qY {α:Type} [Inhabited α] (l:List α) (i:Int):at_ l i=l.getD i.toNat default:=rfl

theorem hG {l:List hO}:bJ l=true↔l.length≤4∧∀ i,i < l.length→mW l i=true:=by
 unfold bJ
 simp only [Bool.and_eq_true,decide_eq_true_eq,List.all_eq_true,List.mem_range]

theorem eF {α:Type} [Inhabited α] {l:List α} {i:Nat} (h:i < l.length):l.getD i default∈l:=by
 rw [List.getD_eq_getElem?_getD,List.getElem?_eq_getElem h]
 exact List.getElem_mem h

theorem aG0 {α:Type} [Inhabited α] {l:List α} {i:Int} (h0:0≤i) (h:i < (l.length:Int)):at_ l i∈l:=eF (by omega)

theorem cA {r:b8}:aN r=true↔(0≤r.1∧r.1≤1048576)∧(0≤r.2.1∧r.2.1≤1048576)∧(0≤r.2.2∧r.2.2≤1048576):=by
 unfold aN okN
 simp only [Bool.and_eq_true,decide_eq_true_eq,and_assoc]

theorem sI {t:bO}:bL t=true↔a9 t.1=true∧a9 t.2.1=true∧(0≤t.2.2.1∧t.2.2.1≤9)∧aN t.2.2.2.1=true∧bJ t.2.2.2.2.1=true∧d8 t.2.2.2.2.2.1=true∧d8 t.2.2.2.2.2.2.1=true∧vK t.2.2.2.2.2.2.1 t.2.2.2.2.2.2.2=true:=by
 unfold bL
 simp only [Bool.and_eq_true,decide_eq_true_eq,and_assoc]

theorem jU {g:ByteArray} {n:Int}:vK g n=true↔(g.size=0∧n=0)∨(g.size≠0∧2≤n∧n≤4):=by
 unfold vK
 split
 ·rename_i h; simp [h]
 ·rename_i h; simp [h]
end Go.Abs

-- interregnum/ident.Name
namespace Go.Abs
open Go
def f48.args (a:ByteArray):List D:=[.str a]
def f48.blks (a:ByteArray):List (List D):=[]
def f48.res (a:ByteArray):List D:=[.bool (a9 a)]
def f48.blks' (a:ByteArray):List (List D):=[]
def f48.C:aM:=FnC f48.args f48.blks (fun a=>aY a) f48.res f48.blks'
end Go.Abs

/- interregnum/ident.Name -/
namespace Go.Abs
open Go
set_option linter.unusedVariables false
def f48.kills (a:ByteArray):List cB:=[]
def f48.cuts (a:ByteArray):List (Nat×Σ β:Type,β→Tm):=[]
def f48.af (a:ByteArray):AF:=AF.mk (.seq (.region [⟨(some 2),0,.move,[.c (.bool false)],none⟩])
 (.seq (.region [oT 3 1 .move [0],
 ⟨(some 4),2,(.bin .neq),[.t 3,.c (.str ByteArray.empty)],none⟩,
 oT 5 3 .move [4],
 oG 6 4 .move [0] 5 true,
 oG 7 5 (.len true) [6] 5 true,
 ⟨(some 8),6,(.bin .leq),[.t 7,.c (.int .i64 (16))],(some (5,true))⟩,
 ⟨(some 9),7,.pick,[.t 5,.t 8,.c (.bool false)],none⟩,
 oT 10 8 .move [9],
 oG 11 9 .move [0] 10 true,
 ⟨(some 12),10,.indexStr,[.t 11,.c (.int .i64 (0))],(some (10,true))⟩,
 ⟨(some 13),11,(.bin .neq),[.t 12,.c (.int .u8 (45))],(some (10,true))⟩,
 ⟨(some 14),12,.pick,[.t 10,.t 13,.c (.bool false)],none⟩,
 oT 15 13 .move [14],
 oG 16 14 .move [0] 15 true,
 ⟨(some 17),15,(.call false 66),[.t 16,.c (.fn 67 [])],(some (15,true))⟩,
 oG 18 19 (.un .not) [17] 15 true,
 ⟨(some 19),20,.pick,[.t 15,.t 18,.c (.bool false)],none⟩,
 oT 2 21 .move [19]])
 (.ret)))
 [.tmp 2] 0 19
def f48.env:Env:=[(66,f66.C)]
def f48.tree (a:ByteArray):Prop:=Br (!(a.toList==ByteArray.empty.toList)) (Br (decide ((a.size:Int)≤(16:Int))) (Br (decide ((0:Int)≤(0:Int))&&decide ((0:Int) < (a.size:Int))) (Br ((bAt a (0:Int)) != (45:Int)) (∃ c8:ByteArray,(a=c8)∧(DEqs [] [])∧(fX c8)∧((!(pP c8))=(a9 a))∧True) ((false=(a9 a))∧True)) False) ((false=(a9 a))∧True)) ((false=(a9 a))∧True)
def f48.vc (a:ByteArray):Prop:=((¬(a=ByteArray.empty)→(((a.size:Int)≤(16:Int)→((0:Int) < (a.size:Int)∧((¬(bAt a (0:Int))=(45:Int)→(fX a∧((!(pP a))=a9 a)))∧(¬(¬(bAt a (0:Int))=(45:Int))→(false=a9 a)))))∧(¬((a.size:Int)≤(16:Int))→(false=a9 a))))∧(¬(¬(a=ByteArray.empty))→(false=a9 a)))
set_option maxRecDepth 100000 in
set_option maxHeartbeats 2000000 in
theorem f48.of (a:ByteArray) (h:f48.vc a):f48.tree a:=br h (Cnd.not Cnd.seq) (fun h1 k19=>br k19 Cnd.dec (fun h3 k16=>chk k16.2 Cnd.ix ⟨(by decide),k16.1⟩ (fun h5 k14=>br k14 Cnd.ne (fun h6 k12=>⟨a,⟨rfl,⟨(DEqs.refl _),⟨k12.1,⟨k12.2,trivial⟩⟩⟩⟩⟩) (fun h7 k13=>⟨k13,trivial⟩))) (fun h4 k17=>⟨k17,trivial⟩)) (fun h2 k20=>⟨k20,trivial⟩)
theorem f48.eq (a:ByteArray):(f48.af a).gives f48.env (f48.args a) (f48.blks a) (f48.res a) (f48.blks' a)=f48.tree a:=by kernel_rfl
end Go.Abs

-- interregnum/interregnumref04.Name
namespace Go.Abs
open Go
def f58.args (a:ByteArray):List D:=[.str a]
def f58.blks (a:ByteArray):List (List D):=[]
def f58.res (a:ByteArray):List D:=[.bool (a9 a)]
def f58.blks' (a:ByteArray):List (List D):=[]
def f58.C:aM:=FnC f58.args f58.blks (fun a=>aY a) f58.res f58.blks'
end Go.Abs

/- interregnum/interregnumref04.Name -/
namespace Go.Abs
open Go
set_option linter.unusedVariables false
def f58.S0 (a:ByteArray) (x:Int):Tm:=⟨[.str a,.dead,.dead,.int .i64 x,.dead,.dead,.dead,.dead,.dead,.dead,.dead,.dead,.dead,.dead,.dead,.dead,.dead,.dead,.dead,.dead,.dead,.dead,.dead,.dead,.dead,.dead,.dead,.dead,.dead,.dead,.dead,.dead,.dead,.dead,.dead,.dead,.dead,.dead,.dead,.dead,.dead,.dead,.dead,.dead,.dead],[],[]⟩
def f58.kills (a:ByteArray):List cB:=[.tell Int (f58.S0 a)]
def f58.cuts (a:ByteArray):List (Nat×Σ β:Type,β→Tm):=[]
def f58.af (a:ByteArray):AF:=AF.mk (.seq (.region [⟨(some 2),0,.move,[.c (.bool false)],none⟩])
 (.seq (.seq (.region [oT 5 1 .move [0],
 oT 6 2 (.len true) [5],
 ⟨(some 7),3,(.bin .lss),[.t 6,.c (.int .i64 (1))],none⟩,
 oT 8 4 .move [7],
 oG 9 5 .move [0] 8 false,
 oG 10 6 (.len true) [9] 8 false,
 ⟨(some 11),7,(.bin .gtr),[.t 10,.c (.int .i64 (16))],(some (8,false))⟩,
 ⟨(some 12),8,.pick,[.t 8,.c (.bool true),.t 11],none⟩,
 oT 13 9 .move [12],
 oG 14 10 .move [0] 13 false,
 ⟨(some 15),11,.indexStr,[.t 14,.c (.int .i64 (0))],(some (13,false))⟩,
 ⟨(some 16),12,(.bin .eql),[.t 15,.c (.int .u8 (45))],(some (13,false))⟩,
 ⟨(some 17),13,.pick,[.t 13,.c (.bool true),.t 16],none⟩])
 (.cond (.t 17) (.seq (.region [⟨(some 2),14,.move,[.c (.bool false)],none⟩])
 (.ret)) (.skip)))
 (.seq (.seq (.region [⟨(some 3),15,.move,[.c (.int .i64 (0))],none⟩])
 (.block 0 (.loopT Int (f58.S0 a) 16 46 (.seq (.seq (.region [oT 18 16 .move [3],
 oT 19 17 .move [0],
 oT 20 18 (.len true) [19],
 oT 21 19 (.bin .lss) [18,20]])
 (.cond (.t 21) (.skip) (.exit 0)))
 (.seq (.block 1 (.seq (.region [oT 24 20 .move [0],
 oT 25 21 .move [3],
 oT 26 22 .indexStr [24,25],
 oT 4 23 .move [26]])
 (.seq (.region [oT 27 24 .move [4],
 ⟨(some 28),25,(.bin .lss),[.t 27,.c (.int .u8 (97))],none⟩,
 oT 29 26 .move [28],
 oG 30 27 .move [4] 29 false,
 ⟨(some 31),28,(.bin .gtr),[.t 30,.c (.int .u8 (122))],(some (29,false))⟩,
 ⟨(some 32),29,.pick,[.t 29,.c (.bool true),.t 31],none⟩,
 oT 33 30 .move [32],
 oG 34 31 .move [4] 33 true,
 ⟨(some 35),32,(.bin .lss),[.t 34,.c (.int .u8 (48))],(some (33,true))⟩,
 oG 36 33 .move [35] 33 true,
 oG 37 34 .move [4] 36 false,
 ⟨(some 38),35,(.bin .gtr),[.t 37,.c (.int .u8 (57))],(some (36,false))⟩,
 ⟨(some 39),36,.pick,[.t 36,.c (.bool true),.t 38],(some (33,true))⟩,
 ⟨(some 40),37,.pick,[.t 33,.t 39,.c (.bool false)],none⟩,
 oT 41 38 .move [40],
 oG 42 39 .move [4] 41 true,
 ⟨(some 43),40,(.bin .neq),[.t 42,.c (.int .u8 (45))],(some (41,true))⟩,
 ⟨(some 44),41,.pick,[.t 41,.t 43,.c (.bool false)],none⟩])
 (.cond (.t 44) (.seq (.region [⟨(some 2),42,.move,[.c (.bool false)],none⟩])
 (.ret)) (.skip)))))
 (.region [oT 22 43 .move [3],
 ⟨(some 23),44,(.bin .add),[.t 22,.c (.int .i64 (1))],none⟩,
 oT 3 45 .move [23]]))))))
 (.seq (.region [⟨(some 2),46,.move,[.c (.bool true)],none⟩])
 (.ret)))))
 [.tmp 2] 0 44
def f58.env:Env:=[]
def f58.tree (a:ByteArray):Prop:=Br (decide ((a.size:Int) < (1:Int))) ((false=(a9 a))∧True) (Br (decide ((16:Int) < (a.size:Int))) ((false=(a9 a))∧True) (Br (decide ((0:Int)≤(0:Int))&&decide ((0:Int) < (a.size:Int))) (Br ((bAt a (0:Int))==(45:Int)) ((false=(a9 a))∧True) (∃ (I12:Int→Prop) (μ13:Int→Nat),(∃ x11:Int,(a=a)∧((0:Int)=x11)∧I12 x11)∧∀ y14:Int,I12 y14→(Br (decide (y14 < (a.size:Int))) (Br (decide ((0:Int)≤y14)&&decide (y14 < (a.size:Int))) (Br (decide ((bAt a y14) < (97:Int))) (Br (decide ((bAt a y14) < (48:Int))) (Br ((bAt a y14) != (45:Int)) ((false=(a9 a))∧True) (Let (IntKind.i64.wrap (y14+(1:Int))) (fun v25:Int=>∃ x26:Int,(a=a)∧(v25=x26)∧I12 x26∧μ13 x26 < μ13 y14))) (Br (decide ((57:Int) < (bAt a y14))) (Br ((bAt a y14) != (45:Int)) ((false=(a9 a))∧True) (Let (IntKind.i64.wrap (y14+(1:Int))) (fun v38:Int=>∃ x39:Int,(a=a)∧(v38=x39)∧I12 x39∧μ13 x39 < μ13 y14))) (Let (IntKind.i64.wrap (y14+(1:Int))) (fun v46:Int=>∃ x47:Int,(a=a)∧(v46=x47)∧I12 x47∧μ13 x47 < μ13 y14)))) (Br (decide ((122:Int) < (bAt a y14))) (Br (decide ((bAt a y14) < (48:Int))) (Br ((bAt a y14) != (45:Int)) ((false=(a9 a))∧True) (Let (IntKind.i64.wrap (y14+(1:Int))) (fun v63:Int=>∃ x64:Int,(a=a)∧(v63=x64)∧I12 x64∧μ13 x64 < μ13 y14))) (Br (decide ((57:Int) < (bAt a y14))) (Br ((bAt a y14) != (45:Int)) ((false=(a9 a))∧True) (Let (IntKind.i64.wrap (y14+(1:Int))) (fun v76:Int=>∃ x77:Int,(a=a)∧(v76=x77)∧I12 x77∧μ13 x77 < μ13 y14))) (Let (IntKind.i64.wrap (y14+(1:Int))) (fun v84:Int=>∃ x85:Int,(a=a)∧(v84=x85)∧I12 x85∧μ13 x85 < μ13 y14)))) (Let (IntKind.i64.wrap (y14+(1:Int))) (fun v94:Int=>∃ x95:Int,(a=a)∧(v94=x95)∧I12 x95∧μ13 x95 < μ13 y14)))) False) ((true=(a9 a))∧True)))) False))
def f58.vc (a:ByteArray):Prop:=(((a.size:Int) < (1:Int)→(false=a9 a))∧(¬((a.size:Int) < (1:Int))→(((16:Int) < (a.size:Int)→(false=a9 a))∧(¬((16:Int) < (a.size:Int))→((0:Int) < (a.size:Int)∧(((bAt a (0:Int))=(45:Int)→(false=a9 a))∧(¬((bAt a (0:Int))=(45:Int))→(∃ (I12:Int→Prop) (μ13:Int→Nat),I12 (0:Int)∧∀ y14:Int,I12 y14→((y14 < (a.size:Int)→((0:Int)≤y14∧y14 < (a.size:Int)∧(((bAt a y14) < (97:Int)→(((bAt a y14) < (48:Int)→((¬(bAt a y14)=(45:Int)→(false=a9 a))∧(¬(¬(bAt a y14)=(45:Int))→(-9223372036854775808≤(y14+(1:Int))∧(y14+(1:Int))≤9223372036854775807∧(I12 (y14+(1:Int))∧μ13 (y14+(1:Int)) < μ13 y14)))))∧(¬((bAt a y14) < (48:Int))→(((57:Int) < (bAt a y14)→((¬(bAt a y14)=(45:Int)→(false=a9 a))∧(¬(¬(bAt a y14)=(45:Int))→(-9223372036854775808≤(y14+(1:Int))∧(y14+(1:Int))≤9223372036854775807∧(I12 (y14+(1:Int))∧μ13 (y14+(1:Int)) < μ13 y14)))))∧(¬((57:Int) < (bAt a y14))→(-9223372036854775808≤(y14+(1:Int))∧(y14+(1:Int))≤9223372036854775807∧(I12 (y14+(1:Int))∧μ13 (y14+(1:Int)) < μ13 y14)))))))∧(¬((bAt a y14) < (97:Int))→(((122:Int) < (bAt a y14)→(((bAt a y14) < (48:Int)→((¬(bAt a y14)=(45:Int)→(false=a9 a))∧(¬(¬(bAt a y14)=(45:Int))→(-9223372036854775808≤(y14+(1:Int))∧(y14+(1:Int))≤9223372036854775807∧(I12 (y14+(1:Int))∧μ13 (y14+(1:Int)) < μ13 y14)))))∧(¬((bAt a y14) < (48:Int))→(((57:Int) < (bAt a y14)→((¬(bAt a y14)=(45:Int)→(false=a9 a))∧(¬(¬(bAt a y14)=(45:Int))→(-9223372036854775808≤(y14+(1:Int))∧(y14+(1:Int))≤9223372036854775807∧(I12 (y14+(1:Int))∧μ13 (y14+(1:Int)) < μ13 y14)))))∧(¬((57:Int) < (bAt a y14))→(-9223372036854775808≤(y14+(1:Int))∧(y14+(1:Int))≤9223372036854775807∧(I12 (y14+(1:Int))∧μ13 (y14+(1:Int)) < μ13 y14)))))))∧(¬((122:Int) < (bAt a y14))→(-9223372036854775808≤(y14+(1:Int))∧(y14+(1:Int))≤9223372036854775807∧(I12 (y14+(1:Int))∧μ13 (y14+(1:Int)) < μ13 y14))))))))∧(¬(y14 < (a.size:Int))→(true=a9 a)))))))))))
set_option maxRecDepth 100000 in
set_option maxHeartbeats 2000000 in
theorem f58.of (a:ByteArray) (h:f58.vc a):f58.tree a:=br h Cnd.dec (fun h1 k116=>⟨k116,trivial⟩) (fun h2 k117=>br k117 Cnd.dec (fun h4 k114=>⟨k114,trivial⟩) (fun h5 k115=>chk k115.2 Cnd.ix ⟨(by decide),k115.1⟩ (fun h7 k113=>br k113 Cnd.eq (fun h8 k111=>⟨k111,trivial⟩) (fun h9 k112=>Exists.elim k112 (fun I12 h108_=>Exists.elim h108_ (fun μ13 h108=>⟨I12,μ13,⟨(0:Int),⟨rfl,⟨rfl,h108.1⟩⟩⟩,fun y14 h110=>br (h108.2 y14 h110) Cnd.dec (fun h15 k106=>chk k106.2.2 Cnd.ix ⟨k106.1,k106.2.1⟩ (fun h17 k104=>br k104 Cnd.dec (fun h18 k102=>br k102 Cnd.dec (fun h20 k54=>br k54 Cnd.ne (fun h22 k31=>⟨k31,trivial⟩) (fun h23 k32=>wrapK.i64 k32 (fun h28 h29 k30=>⟨(y14+(1:Int)),⟨rfl,⟨rfl,k30⟩⟩⟩))) (fun h21 k55=>br k55 Cnd.dec (fun h33 k52=>br k52 Cnd.ne (fun h35 k44=>⟨k44,trivial⟩) (fun h36 k45=>wrapK.i64 k45 (fun h41 h42 k43=>⟨(y14+(1:Int)),⟨rfl,⟨rfl,k43⟩⟩⟩))) (fun h34 k53=>wrapK.i64 k53 (fun h49 h50 k51=>⟨(y14+(1:Int)),⟨rfl,⟨rfl,k51⟩⟩⟩)))) (fun h19 k103=>br k103 Cnd.dec (fun h56 k100=>br k100 Cnd.dec (fun h58 k92=>br k92 Cnd.ne (fun h60 k69=>⟨k69,trivial⟩) (fun h61 k70=>wrapK.i64 k70 (fun h66 h67 k68=>⟨(y14+(1:Int)),⟨rfl,⟨rfl,k68⟩⟩⟩))) (fun h59 k93=>br k93 Cnd.dec (fun h71 k90=>br k90 Cnd.ne (fun h73 k82=>⟨k82,trivial⟩) (fun h74 k83=>wrapK.i64 k83 (fun h79 h80 k81=>⟨(y14+(1:Int)),⟨rfl,⟨rfl,k81⟩⟩⟩))) (fun h72 k91=>wrapK.i64 k91 (fun h87 h88 k89=>⟨(y14+(1:Int)),⟨rfl,⟨rfl,k89⟩⟩⟩)))) (fun h57 k101=>wrapK.i64 k101 (fun h97 h98 k99=>⟨(y14+(1:Int)),⟨rfl,⟨rfl,k99⟩⟩⟩))))) (fun h16 k107=>⟨k107,trivial⟩)⟩))))))
theorem f58.eq (a:ByteArray):(f58.af a).gives f58.env (f58.args a) (f58.blks a) (f58.res a) (f58.blks' a)=f58.tree a:=by kernel_rfl
end Go.Abs

-- interregnum/ident.Labels
namespace Go.Abs
open Go
def f50.ent (K:(List (aH))→Prop) (t:List (aH)):Prop:=∃ c:List (aH),SlQ t.length c.length (gl aE t) (gl aE c) (K c)
theorem f50.ei {K:(List (aH))→Prop} {t:List (aH)} (h:K t):f50.ent K t:=⟨t,slQ (Rds.self (enc:=aE)) (h)⟩
def f50.args (a:List (aH)):List D:=[.slice .ro 2 a.length (gl aE a)]
def f50.blks (a:List (aH)):List (List D):=[]
def f50.res (a:List (aH)):List D:=[.bool (bJ a)]
def f50.blks' (a:List (aH)):List (List D):=[]
def f50.C:aM:=FnC f50.args f50.blks (fun a=>eE a) f50.res f50.blks'
end Go.Abs

/- interregnum/ident.Labels -/
namespace Go.Abs
open Go
set_option linter.unusedVariables false
def f50.S0 (a:List (aH)) (x:ByteArray×Int):Tm:=⟨[.dead,.dead,.dead,.str x.1,.dead,.dead,.dead,.dead,.dead,.slice .ro 2 a.length (gl aE a),.int .i64 (a.length:Int),.int .i64 x.2,.dead,.dead,.dead,.dead,.dead,.dead,.dead,.dead,.dead,.dead,.dead,.dead,.dead,.dead,.dead,.dead,.dead,.dead,.dead,.dead,.dead,.dead,.dead,.dead,.dead,.dead,.dead],[],[]⟩
def f50.kills (a:List (aH)):List cB:=[.tell (ByteArray×Int) (f50.S0 a)]
def f50.cuts (a:List (aH)):List (Nat×Σ β:Type,β→Tm):=[]
def f50.af (a:List (aH)):AF:=AF.mk (.seq (.region [⟨(some 2),0,.move,[.c (.bool false)],none⟩])
 (.seq (.seq (.region [oT 6 1 .move [0],
 oT 7 2 (.len false) [6],
 ⟨(some 8),3,(.bin .gtr),[.t 7,.c (.int .i64 (4))],none⟩])
 (.cond (.t 8) (.seq (.region [⟨(some 2),4,.move,[.c (.bool false)],none⟩])
 (.ret)) (.skip)))
 (.seq (.region [⟨(some 3),5,.move,[.c (.str ByteArray.empty)],none⟩])
 (.seq (.seq (.region [oT 9 6 .move [0],
 oT 10 7 (.len false) [9],
 ⟨(some 11),8,.move,[.c (.int .i64 (0))],none⟩])
 (.block 0 (.loopT (ByteArray×Int) (f50.S0 a) 9 50 (.seq (.region [oT 12 9 (.bin .lss) [11,10]])
 (.seq (.cond (.t 12) (.skip) (.exit 0))
 (.seq (.block 1 (.seq (.region [oT 13 10 .move [11],
 oT 14 11 (.indexAddr 2 none) [9,11],
 oT 15 12 (.load true 2) [14],
 oT 5 13 (.alloc [.str ByteArray.empty,.str ByteArray.empty]) [],
 oT 4 16 .move [13],
 ⟨none,17,(.store 2),[.t 5,.t 15],none⟩])
 (.seq (.seq (.region [oT 16 18 (.fieldAddr 0) [5],
 oT 17 19 (.load false 1) [16],
 oT 18 20 (.call false 48) [17],
 oT 19 24 (.un .not) [18],
 oT 20 25 .move [19],
 oG 21 26 (.fieldAddr 1) [5] 20 false,
 oG 22 27 (.load false 1) [21] 20 false,
 oG 23 28 (.call false 48) [22] 20 false,
 oG 24 32 (.un .not) [23] 20 false,
 ⟨(some 25),33,.pick,[.t 20,.c (.bool true),.t 24],none⟩,
 oT 26 34 .move [25],
 oG 27 35 .move [4] 26 false,
 ⟨(some 28),36,(.bin .gtr),[.t 27,.c (.int .i64 (0))],(some (26,false))⟩,
 oG 29 37 .move [28] 26 false,
 oG 30 38 (.fieldAddr 0) [5] 29 true,
 oG 31 39 (.load false 1) [30] 29 true,
 oG 32 40 .move [3] 29 true,
 oG 33 41 (.bin .leq) [31,32] 29 true,
 ⟨(some 34),42,.pick,[.t 29,.t 33,.c (.bool false)],(some (26,false))⟩,
 ⟨(some 35),43,.pick,[.t 26,.c (.bool true),.t 34],none⟩])
 (.cond (.t 35) (.seq (.region [⟨(some 2),44,.move,[.c (.bool false)],none⟩])
 (.ret)) (.skip)))
 (.region [oT 36 45 (.fieldAddr 0) [5],
 oT 37 46 (.load false 1) [36],
 oT 3 47 .move [37]]))))
 (.region [⟨(some 38),48,(.bin .add),[.t 11,.c (.int .i64 (1))],none⟩,
 oT 11 49 .move [38]])))))))
 (.seq (.region [⟨(some 2),50,.move,[.c (.bool true)],none⟩])
 (.ret))))))
 [.tmp 2] 0 38
def f50.env:Env:=[(48,f48.C)]
def f50.tree (a:List (aH)):Prop:=Br (decide ((4:Int) < (a.length:Int))) ((false=(bJ a))∧True) (∃ (I5:(ByteArray×Int)→Prop) (μ6:(ByteArray×Int)→Nat),(∃ x4:ByteArray×Int,(ByteArray.empty=x4.1)∧SlS aE a (((a.length:Int)=(a.length:Int))∧((0:Int)=x4.2)∧I5 x4))∧∀ y7:ByteArray×Int,I5 y7→(Br (decide (y7.2 < (a.length:Int))) (Br (decide ((0:Int)≤y7.2)&&decide (y7.2 < (a.length:Int))) (∃ c11:ByteArray,(((at_ a y7.2).1)=c11)∧(aY c11)∧Br (!(a9 c11)) ((false=(bJ a))∧True) (∃ c15:ByteArray,(((at_ a y7.2).2)=c15)∧(aY c15)∧Br (!(a9 c15)) ((false=(bJ a))∧True) (Br (decide ((0:Int) < y7.2)) (Br (Op.bytesLess ((at_ a y7.2).1).toList y7.1.toList || ((at_ a y7.2).1).toList==y7.1.toList) ((false=(bJ a))∧True) (Let (IntKind.i64.wrap (y7.2+(1:Int))) (fun v24:Int=>∃ x25:ByteArray×Int,(((at_ a y7.2).1)=x25.1)∧SlS aE a (((a.length:Int)=(a.length:Int))∧(v24=x25.2)∧I5 x25∧μ6 x25 < μ6 y7)))) (Let (IntKind.i64.wrap (y7.2+(1:Int))) (fun v32:Int=>∃ x33:ByteArray×Int,(((at_ a y7.2).1)=x33.1)∧SlS aE a (((a.length:Int)=(a.length:Int))∧(v32=x33.2)∧I5 x33∧μ6 x33 < μ6 y7)))))) False) ((true=(bJ a))∧True)))
def f50.vc (a:List (aH)):Prop:=(((4:Int) < (a.length:Int)→(false=bJ a))∧(¬((4:Int) < (a.length:Int))→(∃ (I5:(ByteArray×Int)→Prop) (μ6:(ByteArray×Int)→Nat),I5 (ByteArray.empty,(0:Int))∧∀ y7:ByteArray×Int,I5 y7→((y7.2 < (a.length:Int)→((0:Int)≤y7.2∧y7.2 < (a.length:Int)∧(aY ((at_ a y7.2).1)∧((¬((a9 ((at_ a y7.2).1))=true)→(false=bJ a))∧(¬(¬((a9 ((at_ a y7.2).1))=true))→(aY ((at_ a y7.2).2)∧((¬((a9 ((at_ a y7.2).2))=true)→(false=bJ a))∧(¬(¬((a9 ((at_ a y7.2).2))=true))→(((0:Int) < y7.2→((sLe ((at_ a y7.2).1) y7.1→(false=bJ a))∧(¬(sLe ((at_ a y7.2).1) y7.1)→(-9223372036854775808≤(y7.2+(1:Int))∧(y7.2+(1:Int))≤9223372036854775807∧(I5 ((at_ a y7.2).1,(y7.2+(1:Int)))∧μ6 ((at_ a y7.2).1,(y7.2+(1:Int))) < μ6 y7)))))∧(¬((0:Int) < y7.2)→(-9223372036854775808≤(y7.2+(1:Int))∧(y7.2+(1:Int))≤9223372036854775807∧(I5 ((at_ a y7.2).1,(y7.2+(1:Int)))∧μ6 ((at_ a y7.2).1,(y7.2+(1:Int))) < μ6 y7))))))))))))∧(¬(y7.2 < (a.length:Int))→(true=bJ a))))))
set_option maxRecDepth 100000 in
set_option maxHeartbeats 2000000 in
theorem f50.of (a:List (aH)) (h:f50.vc a):f50.tree a:=br h Cnd.dec (fun h1 k53=>⟨k53,trivial⟩) (fun h2 k54=>Exists.elim k54 (fun I5 h50_=>Exists.elim h50_ (fun μ6 h50=>⟨I5,μ6,⟨(ByteArray.empty,(0:Int)),⟨rfl,SlS.mk  (⟨rfl,⟨rfl,h50.1⟩⟩)⟩⟩,fun y7 h52=>br (h50.2 y7 h52) Cnd.dec (fun h8 k48=>chk k48.2.2 Cnd.ix ⟨k48.1,k48.2.1⟩ (fun h10 k46=>⟨(at_ a y7.2).1,⟨rfl,⟨k46.1,br k46.2 (Cnd.not Cnd.b) (fun h12 k43=>⟨k43,trivial⟩) (fun h13 k44=>⟨(at_ a y7.2).2,⟨rfl,⟨k44.1,br k44.2 (Cnd.not Cnd.b) (fun h16 k40=>⟨k40,trivial⟩) (fun h17 k41=>br k41 Cnd.dec (fun h19 k38=>br k38 Cnd.sle (fun h21 k30=>⟨k30,trivial⟩) (fun h22 k31=>wrapK.i64 k31 (fun h27 h28 k29=>⟨((at_ a y7.2).1,(y7.2+(1:Int))),⟨rfl,SlS.mk  (⟨rfl,⟨rfl,k29⟩⟩)⟩⟩))) (fun h20 k39=>wrapK.i64 k39 (fun h35 h36 k37=>⟨((at_ a y7.2).1,(y7.2+(1:Int))),⟨rfl,SlS.mk  (⟨rfl,⟨rfl,k37⟩⟩)⟩⟩)))⟩⟩⟩)⟩⟩⟩)) (fun h9 k49=>⟨k49,trivial⟩)⟩)))
theorem f50.eq (a:List (aH)):(f50.af a).gives f50.env (f50.args a) (f50.blks a) (f50.res a) (f50.blks' a)=f50.tree a:=by kernel_rfl
end Go.Abs

-- interregnum/interregnumref04.Labels
namespace Go.Abs
open Go
def f59.ent (K:(List (aH))→Prop) (t:List (aH)):Prop:=∃ c:List (aH),SlQ t.length c.length (gl aE t) (gl aE c) (K c)
theorem f59.ei {K:(List (aH))→Prop} {t:List (aH)} (h:K t):f59.ent K t:=⟨t,slQ (Rds.self (enc:=aE)) (h)⟩
def f59.args (a:List (aH)):List D:=[.slice .ro 2 a.length (gl aE a)]
def f59.blks (a:List (aH)):List (List D):=[]
def f59.res (a:List (aH)):List D:=[.bool (bJ a)]
def f59.blks' (a:List (aH)):List (List D):=[]
def f59.C:aM:=FnC f59.args f59.blks (fun a=>eE a) f59.res f59.blks'
end Go.Abs

/- interregnum/interregnumref04.Labels -/
namespace Go.Abs
open Go
set_option linter.unusedVariables false
def f59.S0 (a:List (aH)) (x:Int):Tm:=⟨[.slice .ro 2 a.length (gl aE a),.dead,.dead,.dead,.dead,.dead,.dead,.dead,.int .i64 (a.length:Int),.int .i64 x,.dead,.dead,.dead,.dead,.dead,.dead,.dead,.dead,.dead,.dead,.dead,.dead,.dead,.dead,.dead,.dead,.dead,.dead,.dead,.dead,.dead,.dead,.dead,.dead,.dead,.dead,.dead,.dead,.dead,.dead,.dead,.dead,.dead,.dead,.dead,.dead,.dead],[],[]⟩
def f59.kills (a:List (aH)):List cB:=[.tell Int (f59.S0 a)]
def f59.cuts (a:List (aH)):List (Nat×Σ β:Type,β→Tm):=[]
def f59.af (a:List (aH)):AF:=AF.mk (.seq (.region [⟨(some 2),0,.move,[.c (.bool false)],none⟩])
 (.seq (.seq (.region [oT 4 1 .move [0],
 oT 5 2 (.len false) [4],
 ⟨(some 6),3,(.bin .gtr),[.t 5,.c (.int .i64 (4))],none⟩])
 (.cond (.t 6) (.seq (.region [⟨(some 2),4,.move,[.c (.bool false)],none⟩])
 (.ret)) (.skip)))
 (.seq (.seq (.region [oT 7 5 .move [0],
 oT 8 6 (.len false) [7],
 ⟨(some 9),7,.move,[.c (.int .i64 (0))],none⟩])
 (.block 0 (.loopT Int (f59.S0 a) 8 54 (.seq (.region [oT 10 8 (.bin .lss) [9,8]])
 (.seq (.cond (.t 10) (.skip) (.exit 0))
 (.seq (.block 1 (.seq (.region [oT 11 9 .move [9],
 oT 3 10 .move [11]])
 (.seq (.region [oT 12 11 .move [0],
 oT 13 12 .move [3],
 oT 14 13 (.indexAddr 2 none) [12,13],
 oT 15 14 (.fieldAddr 0) [14],
 oT 16 15 (.load false 1) [15],
 oT 17 16 (.call false 58) [16],
 oT 18 20 (.un .not) [17],
 oT 19 21 .move [18],
 oG 20 22 .move [0] 19 false,
 oG 21 23 .move [3] 19 false,
 oG 22 24 (.indexAddr 2 none) [20,21] 19 false,
 oG 23 25 (.fieldAddr 1) [22] 19 false,
 oG 24 26 (.load false 1) [23] 19 false,
 oG 25 27 (.call false 58) [24] 19 false,
 oG 26 31 (.un .not) [25] 19 false,
 ⟨(some 27),32,.pick,[.t 19,.c (.bool true),.t 26],none⟩,
 oT 28 33 .move [27],
 oG 29 34 .move [3] 28 false,
 ⟨(some 30),35,(.bin .gtr),[.t 29,.c (.int .i64 (0))],(some (28,false))⟩,
 oG 31 36 .move [30] 28 false,
 oG 32 37 .move [0] 31 true,
 oG 33 38 .move [3] 31 true,
 ⟨(some 34),39,(.bin .sub),[.t 33,.c (.int .i64 (1))],(some (31,true))⟩,
 oG 35 40 (.indexAddr 2 none) [32,34] 31 true,
 oG 36 41 (.fieldAddr 0) [35] 31 true,
 oG 37 42 (.load false 1) [36] 31 true,
 oG 38 43 .move [0] 31 true,
 oG 39 44 .move [3] 31 true,
 oG 40 45 (.indexAddr 2 none) [38,39] 31 true,
 oG 41 46 (.fieldAddr 0) [40] 31 true,
 oG 42 47 (.load false 1) [41] 31 true,
 oG 43 48 (.bin .geq) [37,42] 31 true,
 ⟨(some 44),49,.pick,[.t 31,.t 43,.c (.bool false)],(some (28,false))⟩,
 ⟨(some 45),50,.pick,[.t 28,.c (.bool true),.t 44],none⟩])
 (.cond (.t 45) (.seq (.region [⟨(some 2),51,.move,[.c (.bool false)],none⟩])
 (.ret)) (.skip)))))
 (.region [⟨(some 46),52,(.bin .add),[.t 9,.c (.int .i64 (1))],none⟩,
 oT 9 53 .move [46]])))))))
 (.seq (.region [⟨(some 2),54,.move,[.c (.bool true)],none⟩])
 (.ret)))))
 [.tmp 2] 0 46
def f59.env:Env:=[(58,f58.C)]
def f59.tree (a:List (aH)):Prop:=Br (decide ((4:Int) < (a.length:Int))) ((false=(bJ a))∧True) (∃ (I5:Int→Prop) (μ6:Int→Nat),(∃ x4:Int,SlS aE a (((a.length:Int)=(a.length:Int))∧((0:Int)=x4)∧I5 x4))∧∀ y7:Int,I5 y7→(Br (decide (y7 < (a.length:Int))) (Br (decide ((0:Int)≤y7)&&decide (y7 < (a.length:Int))) (∃ c11:ByteArray,(((at_ a y7).1)=c11)∧(aY c11)∧Br (!(a9 c11)) ((false=(bJ a))∧True) (Br (decide ((0:Int)≤y7)&&decide (y7 < (a.length:Int))) (∃ c16:ByteArray,(((at_ a y7).2)=c16)∧(aY c16)∧Br (!(a9 c16)) ((false=(bJ a))∧True) (Br (decide ((0:Int) < y7)) (Let (IntKind.i64.wrap (y7 - (1:Int))) (fun v22:Int=>Br (decide ((0:Int)≤v22)&&decide (v22 < (a.length:Int))) (Br (decide ((0:Int)≤y7)&&decide (y7 < (a.length:Int))) (Br (!(Op.bytesLess ((at_ a v22).1).toList ((at_ a y7).1).toList)) ((false=(bJ a))∧True) (Let (IntKind.i64.wrap (y7+(1:Int))) (fun v28:Int=>∃ x29:Int,SlS aE a (((a.length:Int)=(a.length:Int))∧(v28=x29)∧I5 x29∧μ6 x29 < μ6 y7)))) False) False)) (Let (IntKind.i64.wrap (y7+(1:Int))) (fun v41:Int=>∃ x42:Int,SlS aE a (((a.length:Int)=(a.length:Int))∧(v41=x42)∧I5 x42∧μ6 x42 < μ6 y7))))) False)) False) ((true=(bJ a))∧True)))
def f59.vc (a:List (aH)):Prop:=(((4:Int) < (a.length:Int)→(false=bJ a))∧(¬((4:Int) < (a.length:Int))→(∃ (I5:Int→Prop) (μ6:Int→Nat),I5 (0:Int)∧∀ y7:Int,I5 y7→((y7 < (a.length:Int)→((0:Int)≤y7∧y7 < (a.length:Int)∧(aY ((at_ a y7).1)∧((¬((a9 ((at_ a y7).1))=true)→(false=bJ a))∧(¬(¬((a9 ((at_ a y7).1))=true))→((0:Int)≤y7∧y7 < (a.length:Int)∧(aY ((at_ a y7).2)∧((¬((a9 ((at_ a y7).2))=true)→(false=bJ a))∧(¬(¬((a9 ((at_ a y7).2))=true))→(((0:Int) < y7→(-9223372036854775808≤(y7 - (1:Int))∧(y7 - (1:Int))≤9223372036854775807∧((0:Int)≤(y7 - (1:Int))∧(y7 - (1:Int)) < (a.length:Int)∧((0:Int)≤y7∧y7 < (a.length:Int)∧((¬sLt ((at_ a (y7 - (1:Int))).1) ((at_ a y7).1)→(false=bJ a))∧(¬(¬sLt ((at_ a (y7 - (1:Int))).1) ((at_ a y7).1))→(-9223372036854775808≤(y7+(1:Int))∧(y7+(1:Int))≤9223372036854775807∧(I5 (y7+(1:Int))∧μ6 (y7+(1:Int)) < μ6 y7))))))))∧(¬((0:Int) < y7)→(-9223372036854775808≤(y7+(1:Int))∧(y7+(1:Int))≤9223372036854775807∧(I5 (y7+(1:Int))∧μ6 (y7+(1:Int)) < μ6 y7)))))))))))))∧(¬(y7 < (a.length:Int))→(true=bJ a))))))
set_option maxRecDepth 100000 in
set_option maxHeartbeats 2000000 in
theorem f59.of (a:List (aH)) (h:f59.vc a):f59.tree a:=br h Cnd.dec (fun h1 k63=>⟨k63,trivial⟩) (fun h2 k64=>Exists.elim k64 (fun I5 h60_=>Exists.elim h60_ (fun μ6 h60=>⟨I5,μ6,⟨(0:Int),SlS.mk  (⟨rfl,⟨rfl,h60.1⟩⟩)⟩,fun y7 h62=>br (h60.2 y7 h62) Cnd.dec (fun h8 k58=>chk k58.2.2 Cnd.ix ⟨k58.1,k58.2.1⟩ (fun h10 k56=>⟨(at_ a y7).1,⟨rfl,⟨k56.1,br k56.2 (Cnd.not Cnd.b) (fun h12 k53=>⟨k53,trivial⟩) (fun h13 k54=>chk k54.2.2 Cnd.ix ⟨k54.1,k54.2.1⟩ (fun h15 k52=>⟨(at_ a y7).2,⟨rfl,⟨k52.1,br k52.2 (Cnd.not Cnd.b) (fun h17 k49=>⟨k49,trivial⟩) (fun h18 k50=>br k50 Cnd.dec (fun h20 k47=>wrapK.i64 k47 (fun h38 h39 k40=>chk k40.2.2 Cnd.ix ⟨k40.1,k40.2.1⟩ (fun h23 k37=>chk k37.2.2 Cnd.ix ⟨k37.1,k37.2.1⟩ (fun h24 k36=>br k36 (Cnd.not Cnd.sl_) (fun h25 k34=>⟨k34,trivial⟩) (fun h26 k35=>wrapK.i64 k35 (fun h31 h32 k33=>⟨(y7+(1:Int)),SlS.mk  (⟨rfl,⟨rfl,k33⟩⟩)⟩)))))) (fun h21 k48=>wrapK.i64 k48 (fun h44 h45 k46=>⟨(y7+(1:Int)),SlS.mk  (⟨rfl,⟨rfl,k46⟩⟩)⟩)))⟩⟩⟩))⟩⟩⟩)) (fun h9 k59=>⟨k59,trivial⟩)⟩)))
theorem f59.eq (a:List (aH)):(f59.af a).gives f59.env (f59.args a) (f59.blks a) (f59.res a) (f59.blks' a)=f59.tree a:=by kernel_rfl
end Go.Abs

-- interregnum/res.Right
namespace Go.Abs
open Go
def f49.args (a:aD):List D:=[.agg [.int .i64 a.1,.int .i64 a.2.1,.int .i64 a.2.2]]
def f49.blks (a:aD):List (List D):=[]
def f49.res (a:aD):List D:=[.bool (aN a)]
def f49.blks' (a:aD):List (List D):=[]
def f49.C:aM:=FnC f49.args f49.blks (fun _=>True) f49.res f49.blks'
end Go.Abs

/- interregnum/res.Right -/
namespace Go.Abs
open Go
set_option linter.unusedVariables false
def f49.kills (a:aD):List cB:=[.unroll 4 [0,1,2,3,4,7,8,9,10,11,14,15] [] []]
def f49.cuts (a:aD):List (Nat×Σ β:Type,β→Tm):=[]
def f49.af (a:aD):AF:=AF.mk (.seq (.region [oT 1 0 .box [0],
 ⟨(some 2),1,.move,[.c (.bool false)],none⟩])
 (.seq (.seq (.region [oT 5 2 (.load true 3) [1],
 ⟨(some 6),3,.move,[.c (.int .i64 (0))],none⟩])
 (.block 0 (.loop 4 [0,1,2,3,4,7,8,9,10,11,14,15] [] [] 4 16 (.seq (.region [⟨(some 7),4,(.bin .lss),[.t 6,.c (.int .i64 (3))],none⟩])
 (.seq (.cond (.t 7) (.skip) (.exit 0))
 (.seq (.block 1 (.seq (.region [oT 8 5 (.indexArr false 1 3) [5,6],
 oT 4 6 .move [8]])
 (.seq (.region [oT 9 7 .move [4],
 ⟨(some 10),8,(.bin .lss),[.t 9,.c (.int .i64 (0))],none⟩,
 oT 11 9 .move [10],
 oG 12 10 .move [4] 11 false,
 ⟨(some 13),11,(.bin .gtr),[.t 12,.c (.int .i64 (1048576))],(some (11,false))⟩,
 ⟨(some 14),12,.pick,[.t 11,.c (.bool true),.t 13],none⟩])
 (.cond (.t 14) (.seq (.region [⟨(some 2),13,.move,[.c (.bool false)],none⟩])
 (.ret)) (.skip)))))
 (.region [⟨(some 15),14,(.bin .add),[.t 6,.c (.int .i64 (1))],none⟩,
 oT 6 15 .move [15]])))))))
 (.seq (.region [⟨(some 2),16,.move,[.c (.bool true)],none⟩])
 (.ret))))
 [.tmp 2] 0 15
def f49.env:Env:=[]
def f49.tree (a:aD):Prop:=Br (decide (a.1 < (0:Int))) ((false=(aN a))∧True) (Br (decide ((1048576:Int) < a.1)) ((false=(aN a))∧True) (Br (decide (a.2.1 < (0:Int))) ((false=(aN a))∧True) (Br (decide ((1048576:Int) < a.2.1)) ((false=(aN a))∧True) (Br (decide (a.2.2 < (0:Int))) ((false=(aN a))∧True) (Br (decide ((1048576:Int) < a.2.2)) ((false=(aN a))∧True) ((true=(aN a))∧True))))))
def f49.vc (a:aD):Prop:=((a.1 < (0:Int)→(false=aN a))∧(¬(a.1 < (0:Int))→(((1048576:Int) < a.1→(false=aN a))∧(¬((1048576:Int) < a.1)→((a.2.1 < (0:Int)→(false=aN a))∧(¬(a.2.1 < (0:Int))→(((1048576:Int) < a.2.1→(false=aN a))∧(¬((1048576:Int) < a.2.1)→((a.2.2 < (0:Int)→(false=aN a))∧(¬(a.2.2 < (0:Int))→(((1048576:Int) < a.2.2→(false=aN a))∧(¬((1048576:Int) < a.2.2)→(true=aN a)))))))))))))
set_option maxRecDepth 100000 in
set_option maxHeartbeats 2000000 in
theorem f49.of (a:aD) (h:f49.vc a):f49.tree a:=br h Cnd.dec (fun h1 k30=>⟨k30,trivial⟩) (fun h2 k31=>br k31 Cnd.dec (fun h4 k28=>⟨k28,trivial⟩) (fun h5 k29=>br k29 Cnd.dec (fun h7 k26=>⟨k26,trivial⟩) (fun h8 k27=>br k27 Cnd.dec (fun h10 k24=>⟨k24,trivial⟩) (fun h11 k25=>br k25 Cnd.dec (fun h13 k22=>⟨k22,trivial⟩) (fun h14 k23=>br k23 Cnd.dec (fun h16 k20=>⟨k20,trivial⟩) (fun h17 k21=>⟨k21,trivial⟩))))))
theorem f49.eq (a:aD):(f49.af a).gives f49.env (f49.args a) (f49.blks a) (f49.res a) (f49.blks' a)=f49.tree a:=by kernel_rfl
end Go.Abs

-- interregnum/interregnumref03.Right
namespace Go.Abs
open Go
def f55.args (a:aD):List D:=[.agg [.int .i64 a.1,.int .i64 a.2.1,.int .i64 a.2.2]]
def f55.blks (a:aD):List (List D):=[]
def f55.res (a:aD):List D:=[.bool (aN a)]
def f55.blks' (a:aD):List (List D):=[]
def f55.C:aM:=FnC f55.args f55.blks (fun _=>True) f55.res f55.blks'
end Go.Abs

/- interregnum/interregnumref03.Right -/
namespace Go.Abs
open Go
set_option linter.unusedVariables false
def f55.kills (a:aD):List cB:=[.unroll 4 [0,2,4,5,6,7,8,9,10,11,12,17] [0] []]
def f55.cuts (a:aD):List (Nat×Σ β:Type,β→Tm):=[]
def f55.af (a:aD):AF:=AF.mk (.seq (.region [oT 1 0 .box [0],
 ⟨(some 2),1,.move,[.c (.bool false)],none⟩])
 (.seq (.seq (.region [⟨(some 3),2,.move,[.c (.int .i64 (0))],none⟩])
 (.block 0 (.loop 4 [0,2,4,5,6,7,8,9,10,11,12,17] [0] [] 3 19 (.seq (.seq (.region [oT 4 3 .move [3],
 ⟨(some 5),4,(.bin .lss),[.t 4,.c (.int .i64 (3))],none⟩])
 (.cond (.t 5) (.skip) (.exit 0)))
 (.seq (.block 1 (.seq (.region [oT 8 5 .move [3],
 oT 9 6 (.indexAddr 1 (some 3)) [1,8],
 oT 10 7 (.load false 1) [9],
 ⟨(some 11),8,(.bin .lss),[.t 10,.c (.int .i64 (0))],none⟩,
 oT 12 9 .move [11],
 oG 13 10 .move [3] 12 false,
 oG 14 11 (.indexAddr 1 (some 3)) [1,13] 12 false,
 oG 15 12 (.load false 1) [14] 12 false,
 ⟨(some 16),13,(.bin .gtr),[.t 15,.c (.int .i64 (1048576))],(some (12,false))⟩,
 ⟨(some 17),14,.pick,[.t 12,.c (.bool true),.t 16],none⟩])
 (.cond (.t 17) (.seq (.region [⟨(some 2),15,.move,[.c (.bool false)],none⟩])
 (.ret)) (.skip))))
 (.region [oT 6 16 .move [3],
 ⟨(some 7),17,(.bin .add),[.t 6,.c (.int .i64 (1))],none⟩,
 oT 3 18 .move [7]]))))))
 (.seq (.region [⟨(some 2),19,.move,[.c (.bool true)],none⟩])
 (.ret))))
 [.tmp 2] 0 17
def f55.env:Env:=[]
def f55.tree (a:aD):Prop:=Br (decide (a.1 < (0:Int))) ((false=(aN a))∧True) (Br (decide ((1048576:Int) < a.1)) ((false=(aN a))∧True) (Br (decide (a.2.1 < (0:Int))) ((false=(aN a))∧True) (Br (decide ((1048576:Int) < a.2.1)) ((false=(aN a))∧True) (Br (decide (a.2.2 < (0:Int))) ((false=(aN a))∧True) (Br (decide ((1048576:Int) < a.2.2)) ((false=(aN a))∧True) ((true=(aN a))∧True))))))
def f55.vc (a:aD):Prop:=((a.1 < (0:Int)→(false=aN a))∧(¬(a.1 < (0:Int))→(((1048576:Int) < a.1→(false=aN a))∧(¬((1048576:Int) < a.1)→((a.2.1 < (0:Int)→(false=aN a))∧(¬(a.2.1 < (0:Int))→(((1048576:Int) < a.2.1→(false=aN a))∧(¬((1048576:Int) < a.2.1)→((a.2.2 < (0:Int)→(false=aN a))∧(¬(a.2.2 < (0:Int))→(((1048576:Int) < a.2.2→(false=aN a))∧(¬((1048576:Int) < a.2.2)→(true=aN a)))))))))))))
set_option maxRecDepth 100000 in
set_option maxHeartbeats 2000000 in
theorem f55.of (a:aD) (h:f55.vc a):f55.tree a:=br h Cnd.dec (fun h1 k30=>⟨k30,trivial⟩) (fun h2 k31=>br k31 Cnd.dec (fun h4 k28=>⟨k28,trivial⟩) (fun h5 k29=>br k29 Cnd.dec (fun h7 k26=>⟨k26,trivial⟩) (fun h8 k27=>br k27 Cnd.dec (fun h10 k24=>⟨k24,trivial⟩) (fun h11 k25=>br k25 Cnd.dec (fun h13 k22=>⟨k22,trivial⟩) (fun h14 k23=>br k23 Cnd.dec (fun h16 k20=>⟨k20,trivial⟩) (fun h17 k21=>⟨k21,trivial⟩))))))
theorem f55.eq (a:aD):(f55.af a).gives f55.env (f55.args a) (f55.blks a) (f55.res a) (f55.blks' a)=f55.tree a:=by kernel_rfl
end Go.Abs

-- interregnum/model.Node
namespace Go.Abs
open Go
def f35.ent (K:aZ→Prop) (t:aZ):Prop:=∃ c:aZ,(t.1=c.1)∧(t.2.1.1=c.2.1.1)∧(t.2.1.2.1=c.2.1.2.1)∧(t.2.1.2.2=c.2.1.2.2)∧SlQ t.2.2.length c.2.2.length (gl aE t.2.2) (gl aE c.2.2) (K c)
theorem f35.ei {K:aZ→Prop} {t:aZ} (h:K t):f35.ent K t:=⟨t,⟨rfl,⟨rfl,⟨rfl,⟨rfl,slQ (Rds.self (enc:=aE)) (h)⟩⟩⟩⟩⟩
def f35.args (a:aZ):List D:=[.agg [.str a.1,.int .i64 a.2.1.1,.int .i64 a.2.1.2.1,.int .i64 a.2.1.2.2,.slice .ro 2 a.2.2.length (gl aE a.2.2)]]
def f35.blks (a:aZ):List (List D):=[]
def f35.res (a:aZ):List D:=[.bool (fI a)]
def f35.blks' (a:aZ):List (List D):=[]
def f35.C:aM:=FnC f35.args f35.blks (fun a=>fH a) f35.res f35.blks'
end Go.Abs

/- interregnum/model.Node -/
namespace Go.Abs
open Go
set_option linter.unusedVariables false
def f35.kills (a:aZ):List cB:=[]
def f35.cuts (a:aZ):List (Nat×Σ β:Type,β→Tm):=[]
def f35.af (a:aZ):AF:=AF.mk (.seq (.region [oT 1 0 .box [0],
 ⟨(some 2),1,.move,[.c (.bool false)],none⟩])
 (.seq (.region [oT 3 2 (.fieldAddr 0) [1],
 oT 4 3 (.load false 1) [3],
 oT 5 4 (.call false 48) [4],
 oT 6 8 .move [5],
 oG 7 9 (.fieldAddr 1) [1] 6 true,
 oG 8 10 (.load true 3) [7] 6 true,
 oG 9 11 (.call false 49) [8] 6 true,
 ⟨(some 10),15,.pick,[.t 6,.t 9,.c (.bool false)],none⟩,
 oT 11 16 .move [10],
 oG 12 17 (.fieldAddr 4) [1] 11 true,
 oG 13 18 (.load false 1) [12] 11 true,
 oG 14 19 (.call false 50) [13] 11 true,
 ⟨(some 15),23,.pick,[.t 11,.t 14,.c (.bool false)],none⟩,
 oT 2 24 .move [15]])
 (.ret)))
 [.tmp 2] 0 15
def f35.env:Env:=[(48,f48.C),(49,f49.C),(50,f50.C)]
def f35.tree (a:aZ):Prop:=∃ c1:ByteArray,(a.1=c1)∧(aY c1)∧Br (a9 c1) (∃ c4:aD,(a.2.1.1=c4.1)∧(a.2.1.2.1=c4.2.1)∧(a.2.1.2.2=c4.2.2)∧True∧Br (aN c4) (f50.ent (fun c7=>(eE c7)∧((bJ c7)=(fI a))∧True) a.2.2) ((false=(fI a))∧True)) ((false=(fI a))∧True)
def f35.vc (a:aZ):Prop:=(aY a.1∧(((a9 (a.1))=true→(((aN (a.2.1))=true→(eE a.2.2∧((bJ (a.2.2))=fI a)))∧(¬((aN (a.2.1))=true)→(false=fI a))))∧(¬((a9 (a.1))=true)→(false=fI a))))
set_option maxRecDepth 100000 in
set_option maxHeartbeats 2000000 in
theorem f35.of (a:aZ) (h:f35.vc a):f35.tree a:=⟨a.1,⟨rfl,⟨h.1,br h.2 Cnd.b (fun h2 k15=>⟨a.2.1,⟨rfl,⟨rfl,⟨rfl,⟨trivial,br k15 Cnd.b (fun h5 k11=>(f50.ei ⟨k11.1,⟨k11.2,trivial⟩⟩)) (fun h6 k12=>⟨k12,trivial⟩)⟩⟩⟩⟩⟩) (fun h3 k16=>⟨k16,trivial⟩)⟩⟩⟩
theorem f35.eq (a:aZ):(f35.af a).gives f35.env (f35.args a) (f35.blks a) (f35.res a) (f35.blks' a)=f35.tree a:=by kernel_rfl
end Go.Abs

-- interregnum/interregnumref05.Node
namespace Go.Abs
open Go
def f36.ent (K:aZ→Prop) (t:aZ):Prop:=∃ c:aZ,(t.1=c.1)∧(t.2.1.1=c.2.1.1)∧(t.2.1.2.1=c.2.1.2.1)∧(t.2.1.2.2=c.2.1.2.2)∧SlQ t.2.2.length c.2.2.length (gl aE t.2.2) (gl aE c.2.2) (K c)
theorem f36.ei {K:aZ→Prop} {t:aZ} (h:K t):f36.ent K t:=⟨t,⟨rfl,⟨rfl,⟨rfl,⟨rfl,slQ (Rds.self (enc:=aE)) (h)⟩⟩⟩⟩⟩
def f36.args (a:aZ):List D:=[.agg [.str a.1,.int .i64 a.2.1.1,.int .i64 a.2.1.2.1,.int .i64 a.2.1.2.2,.slice .ro 2 a.2.2.length (gl aE a.2.2)]]
def f36.blks (a:aZ):List (List D):=[]
def f36.res (a:aZ):List D:=[.bool (fI a)]
def f36.blks' (a:aZ):List (List D):=[]
def f36.C:aM:=FnC f36.args f36.blks (fun a=>fH a) f36.res f36.blks'
end Go.Abs

/- interregnum/interregnumref05.Node -/
namespace Go.Abs
open Go
set_option linter.unusedVariables false
def f36.kills (a:aZ):List cB:=[]
def f36.cuts (a:aZ):List (Nat×Σ β:Type,β→Tm):=[]
def f36.af (a:aZ):AF:=AF.mk (.seq (.region [oT 1 0 .box [0],
 ⟨(some 2),1,.move,[.c (.bool false)],none⟩])
 (.seq (.region [oT 3 2 (.fieldAddr 0) [1],
 oT 4 3 (.load false 1) [3],
 oT 5 4 (.call false 58) [4],
 oT 6 8 .move [5],
 oG 7 9 (.fieldAddr 1) [1] 6 true,
 oG 8 10 (.load true 3) [7] 6 true,
 oG 9 11 (.call false 55) [8] 6 true,
 ⟨(some 10),15,.pick,[.t 6,.t 9,.c (.bool false)],none⟩,
 oT 11 16 .move [10],
 oG 12 17 (.fieldAddr 4) [1] 11 true,
 oG 13 18 (.load false 1) [12] 11 true,
 oG 14 19 (.call false 59) [13] 11 true,
 ⟨(some 15),23,.pick,[.t 11,.t 14,.c (.bool false)],none⟩,
 oT 2 24 .move [15]])
 (.ret)))
 [.tmp 2] 0 15
def f36.env:Env:=[(58,f58.C),(55,f55.C),(59,f59.C)]
def f36.tree (a:aZ):Prop:=∃ c1:ByteArray,(a.1=c1)∧(aY c1)∧Br (a9 c1) (∃ c4:aD,(a.2.1.1=c4.1)∧(a.2.1.2.1=c4.2.1)∧(a.2.1.2.2=c4.2.2)∧True∧Br (aN c4) (f59.ent (fun c7=>(eE c7)∧((bJ c7)=(fI a))∧True) a.2.2) ((false=(fI a))∧True)) ((false=(fI a))∧True)
def f36.vc (a:aZ):Prop:=(aY a.1∧(((a9 (a.1))=true→(((aN (a.2.1))=true→(eE a.2.2∧((bJ (a.2.2))=fI a)))∧(¬((aN (a.2.1))=true)→(false=fI a))))∧(¬((a9 (a.1))=true)→(false=fI a))))
set_option maxRecDepth 100000 in
set_option maxHeartbeats 2000000 in
theorem f36.of (a:aZ) (h:f36.vc a):f36.tree a:=⟨a.1,⟨rfl,⟨h.1,br h.2 Cnd.b (fun h2 k15=>⟨a.2.1,⟨rfl,⟨rfl,⟨rfl,⟨trivial,br k15 Cnd.b (fun h5 k11=>(f59.ei ⟨k11.1,⟨k11.2,trivial⟩⟩)) (fun h6 k12=>⟨k12,trivial⟩)⟩⟩⟩⟩⟩) (fun h3 k16=>⟨k16,trivial⟩)⟩⟩⟩
theorem f36.eq (a:aZ):(f36.af a).gives f36.env (f36.args a) (f36.blks a) (f36.res a) (f36.blks' a)=f36.tree a:=by kernel_rfl
end Go.Abs

-- interregnum/model.Queue
namespace Go.Abs
open Go
end Go.Abs

/- interregnum/model.Queue -/
namespace Go.Abs
open Go
set_option linter.unusedVariables false
end Go.Abs

-- interregnum/interregnumref05.Queue
namespace Go.Abs
open Go
end Go.Abs

/- interregnum/interregnumref05.Queue -/
namespace Go.Abs
open Go
set_option linter.unusedVariables false
end Go.Abs

-- interregnum/model.maybe
namespace Go.Abs
open Go
def f51.args (a:ByteArray):List D:=[.str a]
def f51.blks (a:ByteArray):List (List D):=[]
def f51.res (a:ByteArray):List D:=[.bool (d8 a)]
def f51.blks' (a:ByteArray):List (List D):=[]
def f51.C:aM:=FnC f51.args f51.blks (fun a=>aY a) f51.res f51.blks'
end Go.Abs

/- interregnum/model.maybe -/
namespace Go.Abs
open Go
set_option linter.unusedVariables false
def f51.kills (a:ByteArray):List cB:=[]
def f51.cuts (a:ByteArray):List (Nat×Σ β:Type,β→Tm):=[]
def f51.af (a:ByteArray):AF:=AF.mk (.seq (.region [⟨(some 2),0,.move,[.c (.bool false)],none⟩])
 (.seq (.region [oT 3 1 .move [0],
 ⟨(some 4),2,(.bin .eql),[.t 3,.c (.str ByteArray.empty)],none⟩,
 oT 5 3 .move [4],
 oG 6 4 .move [0] 5 false,
 oG 7 5 (.call false 48) [6] 5 false,
 ⟨(some 8),9,.pick,[.t 5,.c (.bool true),.t 7],none⟩,
 oT 2 10 .move [8]])
 (.ret)))
 [.tmp 2] 0 8
def f51.env:Env:=[(48,f48.C)]
def f51.tree (a:ByteArray):Prop:=Br (a.toList==ByteArray.empty.toList) ((true=(d8 a))∧True) (∃ c4:ByteArray,(a=c4)∧(aY c4)∧((a9 c4)=(d8 a))∧True)
def f51.vc (a:ByteArray):Prop:=((a=ByteArray.empty→(true=d8 a))∧(¬(a=ByteArray.empty)→(aY a∧((a9 a)=d8 a))))
set_option maxRecDepth 100000 in
set_option maxHeartbeats 2000000 in
theorem f51.of (a:ByteArray) (h:f51.vc a):f51.tree a:=br h Cnd.seq (fun h1 k7=>⟨k7,trivial⟩) (fun h2 k8=>⟨a,⟨rfl,⟨k8.1,⟨k8.2,trivial⟩⟩⟩⟩)
theorem f51.eq (a:ByteArray):(f51.af a).gives f51.env (f51.args a) (f51.blks a) (f51.res a) (f51.blks' a)=f51.tree a:=by kernel_rfl
end Go.Abs

-- interregnum/model.Task
namespace Go.Abs
open Go
def f24.ent (K:aF→Prop) (t:aF):Prop:=∃ c:aF,(t.1=c.1)∧(t.2.1=c.2.1)∧(t.2.2.1=c.2.2.1)∧(t.2.2.2.1.1=c.2.2.2.1.1)∧(t.2.2.2.1.2.1=c.2.2.2.1.2.1)∧(t.2.2.2.1.2.2=c.2.2.2.1.2.2)∧SlQ t.2.2.2.2.1.length c.2.2.2.2.1.length (gl aE t.2.2.2.2.1) (gl aE c.2.2.2.2.1) ((t.2.2.2.2.2.1=c.2.2.2.2.2.1)∧(t.2.2.2.2.2.2.1=c.2.2.2.2.2.2.1)∧(t.2.2.2.2.2.2.2=c.2.2.2.2.2.2.2)∧K c)
theorem f24.ei {K:aF→Prop} {t:aF} (h:K t):f24.ent K t:=⟨t,⟨rfl,⟨rfl,⟨rfl,⟨rfl,⟨rfl,⟨rfl,slQ (Rds.self (enc:=aE)) (⟨rfl,⟨rfl,⟨rfl,h⟩⟩⟩)⟩⟩⟩⟩⟩⟩⟩
def f24.args (a:aF):List D:=[.agg [.str a.1,.str a.2.1,.int .i64 a.2.2.1,.int .i64 a.2.2.2.1.1,.int .i64 a.2.2.2.1.2.1,.int .i64 a.2.2.2.1.2.2,.slice .ro 2 a.2.2.2.2.1.length (gl aE a.2.2.2.2.1),.str a.2.2.2.2.2.1,.str a.2.2.2.2.2.2.1,.int .i64 a.2.2.2.2.2.2.2]]
def f24.blks (a:aF):List (List D):=[]
def f24.res (a:aF):List D:=[.bool (bL a)]
def f24.blks' (a:aF):List (List D):=[]
def f24.C:aM:=FnC f24.args f24.blks (fun a=>gJ a) f24.res f24.blks'
end Go.Abs

/- interregnum/model.Task -/
namespace Go.Abs
open Go
set_option linter.unusedVariables false
def f24.kills (a:aF):List cB:=[]
def f24.cuts (a:aF):List (Nat×Σ β:Type,β→Tm):=[]
def f24.af (a:aF):AF:=AF.mk (.seq (.region [oT 1 0 .box [0],
 ⟨(some 2),1,.move,[.c (.bool false)],none⟩])
 (.seq (.block 0 (.seq (.region [oT 4 2 (.fieldAddr 0) [1],
 oT 5 3 (.load false 1) [4],
 oT 6 4 (.call false 48) [5],
 oT 7 8 (.un .not) [6],
 oT 8 9 .move [7],
 oG 9 10 (.fieldAddr 1) [1] 8 false,
 oG 10 11 (.load false 1) [9] 8 false,
 oG 11 12 (.call false 48) [10] 8 false,
 oG 12 16 (.un .not) [11] 8 false,
 ⟨(some 13),17,.pick,[.t 8,.c (.bool true),.t 12],none⟩,
 oT 3 18 .move [13]])
 (.cond (.t 3) (.seq (.region [⟨(some 2),19,.move,[.c (.bool false)],none⟩])
 (.ret)) (.seq (.region [oT 15 20 (.fieldAddr 2) [1],
 oT 16 21 (.load false 1) [15],
 ⟨(some 17),22,(.bin .lss),[.t 16,.c (.int .i64 (0))],none⟩,
 oT 18 23 .move [17],
 oG 19 24 (.fieldAddr 2) [1] 18 false,
 oG 20 25 (.load false 1) [19] 18 false,
 ⟨(some 21),26,(.bin .gtr),[.t 20,.c (.int .i64 (9))],(some (18,false))⟩,
 ⟨(some 22),27,.pick,[.t 18,.c (.bool true),.t 21],none⟩,
 oT 23 28 .move [22],
 oG 24 29 (.fieldAddr 3) [1] 23 false,
 oG 25 30 (.load true 3) [24] 23 false,
 oG 26 31 (.call false 49) [25] 23 false,
 oG 27 35 (.un .not) [26] 23 false,
 ⟨(some 28),36,.pick,[.t 23,.c (.bool true),.t 27],none⟩,
 oT 14 37 .move [28]])
 (.cond (.t 14) (.seq (.region [⟨(some 2),38,.move,[.c (.bool false)],none⟩])
 (.ret)) (.seq (.region [oT 30 39 (.fieldAddr 6) [1],
 oT 31 40 (.load false 1) [30],
 oT 32 41 (.call false 50) [31],
 oT 33 45 (.un .not) [32],
 oT 34 46 .move [33],
 oG 35 47 (.fieldAddr 7) [1] 34 false,
 oG 36 48 (.load false 1) [35] 34 false,
 oG 37 49 (.call false 51) [36] 34 false,
 oG 38 53 (.un .not) [37] 34 false,
 ⟨(some 39),54,.pick,[.t 34,.c (.bool true),.t 38],none⟩,
 oT 40 55 .move [39],
 oG 41 56 (.fieldAddr 8) [1] 40 false,
 oG 42 57 (.load false 1) [41] 40 false,
 oG 43 58 (.call false 51) [42] 40 false,
 oG 44 62 (.un .not) [43] 40 false,
 ⟨(some 45),63,.pick,[.t 40,.c (.bool true),.t 44],none⟩,
 oT 29 64 .move [45]])
 (.cond (.t 29) (.seq (.region [⟨(some 2),65,.move,[.c (.bool false)],none⟩])
 (.ret)) (.seq (.region [oT 47 66 (.fieldAddr 8) [1],
 oT 48 67 (.load false 1) [47],
 ⟨(some 49),68,(.bin .eql),[.t 48,.c (.str ByteArray.empty)],none⟩,
 oT 46 69 .move [49]])
 (.cond (.t 46) (.seq (.region [oT 50 70 (.fieldAddr 9) [1],
 oT 51 71 (.load false 1) [50],
 ⟨(some 52),72,(.bin .eql),[.t 51,.c (.int .i64 (0))],none⟩,
 oT 2 73 .move [52]])
 (.ret)) (.skip))))))))))
 (.seq (.region [oT 53 74 (.fieldAddr 9) [1],
 oT 54 75 (.load false 1) [53],
 ⟨(some 55),76,(.bin .geq),[.t 54,.c (.int .i64 (2))],none⟩,
 oT 56 77 .move [55],
 oG 57 78 (.fieldAddr 9) [1] 56 true,
 oG 58 79 (.load false 1) [57] 56 true,
 ⟨(some 59),80,(.bin .leq),[.t 58,.c (.int .i64 (4))],(some (56,true))⟩,
 ⟨(some 60),81,.pick,[.t 56,.t 59,.c (.bool false)],none⟩,
 oT 2 82 .move [60]])
 (.ret))))
 [.tmp 2] 0 60
def f24.env:Env:=[(48,f48.C),(49,f49.C),(50,f50.C),(51,f51.C)]
def f24.tree (a:aF):Prop:=∃ c1:ByteArray,(a.1=c1)∧(aY c1)∧Br (!(a9 c1)) ((false=(bL a))∧True) (∃ c5:ByteArray,(a.2.1=c5)∧(aY c5)∧Br (!(a9 c5)) ((false=(bL a))∧True) (Br (decide (a.2.2.1 < (0:Int))) ((false=(bL a))∧True) (Br (decide ((9:Int) < a.2.2.1)) ((false=(bL a))∧True) (∃ c15:aD,(a.2.2.2.1.1=c15.1)∧(a.2.2.2.1.2.1=c15.2.1)∧(a.2.2.2.1.2.2=c15.2.2)∧True∧Br (!(aN c15)) ((false=(bL a))∧True) (f50.ent (fun c19=>(eE c19)∧Br (!(bJ c19)) ((false=(bL a))∧True) (∃ c23:ByteArray,(a.2.2.2.2.2.1=c23)∧(aY c23)∧Br (!(d8 c23)) ((false=(bL a))∧True) (∃ c27:ByteArray,(a.2.2.2.2.2.2.1=c27)∧(aY c27)∧Br (!(d8 c27)) ((false=(bL a))∧True) (Br (a.2.2.2.2.2.2.1.toList==ByteArray.empty.toList) (((a.2.2.2.2.2.2.2==(0:Int))=(bL a))∧True) (Br (decide ((2:Int)≤a.2.2.2.2.2.2.2)) (((decide (a.2.2.2.2.2.2.2≤(4:Int)))=(bL a))∧True) ((false=(bL a))∧True)))))) a.2.2.2.2.1)))))
def f24.vc (a:aF):Prop:=(aY a.1∧((¬((a9 (a.1))=true)→(false=bL a))∧(¬(¬((a9 (a.1))=true))→(aY a.2.1∧((¬((a9 (a.2.1))=true)→(false=bL a))∧(¬(¬((a9 (a.2.1))=true))→((a.2.2.1 < (0:Int)→(false=bL a))∧(¬(a.2.2.1 < (0:Int))→(((9:Int) < a.2.2.1→(false=bL a))∧(¬((9:Int) < a.2.2.1)→((¬((aN (a.2.2.2.1))=true)→(false=bL a))∧(¬(¬((aN (a.2.2.2.1))=true))→(eE a.2.2.2.2.1∧((¬((bJ (a.2.2.2.2.1))=true)→(false=bL a))∧(¬(¬((bJ (a.2.2.2.2.1))=true))→(aY a.2.2.2.2.2.1∧((¬((d8 (a.2.2.2.2.2.1))=true)→(false=bL a))∧(¬(¬((d8 (a.2.2.2.2.2.1))=true))→(aY a.2.2.2.2.2.2.1∧((¬((d8 (a.2.2.2.2.2.2.1))=true)→(false=bL a))∧(¬(¬((d8 (a.2.2.2.2.2.2.1))=true))→((a.2.2.2.2.2.2.1=ByteArray.empty→((a.2.2.2.2.2.2.2==(0:Int))=bL a))∧(¬(a.2.2.2.2.2.2.1=ByteArray.empty)→(((2:Int)≤a.2.2.2.2.2.2.2→(decide (a.2.2.2.2.2.2.2≤(4:Int))=bL a))∧(¬((2:Int)≤a.2.2.2.2.2.2.2)→(false=bL a))))))))))))))))))))))))))
set_option maxRecDepth 100000 in
set_option maxHeartbeats 2000000 in
theorem f24.of (a:aF) (h:f24.vc a):f24.tree a:=⟨a.1,⟨rfl,⟨h.1,br h.2 (Cnd.not Cnd.b) (fun h2 k61=>⟨k61,trivial⟩) (fun h3 k62=>⟨a.2.1,⟨rfl,⟨k62.1,br k62.2 (Cnd.not Cnd.b) (fun h6 k58=>⟨k58,trivial⟩) (fun h7 k59=>br k59 Cnd.dec (fun h9 k56=>⟨k56,trivial⟩) (fun h10 k57=>br k57 Cnd.dec (fun h12 k54=>⟨k54,trivial⟩) (fun h13 k55=>⟨a.2.2.2.1,⟨rfl,⟨rfl,⟨rfl,⟨trivial,br k55 (Cnd.not Cnd.b) (fun h16 k51=>⟨k51,trivial⟩) (fun h17 k52=>(f50.ei ⟨k52.1,br k52.2 (Cnd.not Cnd.b) (fun h20 k48=>⟨k48,trivial⟩) (fun h21 k49=>⟨a.2.2.2.2.2.1,⟨rfl,⟨k49.1,br k49.2 (Cnd.not Cnd.b) (fun h24 k45=>⟨k45,trivial⟩) (fun h25 k46=>⟨a.2.2.2.2.2.2.1,⟨rfl,⟨k46.1,br k46.2 (Cnd.not Cnd.b) (fun h28 k42=>⟨k42,trivial⟩) (fun h29 k43=>br k43 Cnd.seq (fun h31 k40=>⟨k40,trivial⟩) (fun h32 k41=>br k41 Cnd.dec (fun h34 k38=>⟨k38,trivial⟩) (fun h35 k39=>⟨k39,trivial⟩)))⟩⟩⟩)⟩⟩⟩)⟩))⟩⟩⟩⟩⟩)))⟩⟩⟩)⟩⟩⟩
theorem f24.eq (a:aF):(f24.af a).gives f24.env (f24.args a) (f24.blks a) (f24.res a) (f24.blks' a)=f24.tree a:=by kernel_rfl
end Go.Abs

-- interregnum/interregnumref05.Task
namespace Go.Abs
open Go
def f38.ent (K:aF→Prop) (t:aF):Prop:=∃ c:aF,(t.1=c.1)∧(t.2.1=c.2.1)∧(t.2.2.1=c.2.2.1)∧(t.2.2.2.1.1=c.2.2.2.1.1)∧(t.2.2.2.1.2.1=c.2.2.2.1.2.1)∧(t.2.2.2.1.2.2=c.2.2.2.1.2.2)∧SlQ t.2.2.2.2.1.length c.2.2.2.2.1.length (gl aE t.2.2.2.2.1) (gl aE c.2.2.2.2.1) ((t.2.2.2.2.2.1=c.2.2.2.2.2.1)∧(t.2.2.2.2.2.2.1=c.2.2.2.2.2.2.1)∧(t.2.2.2.2.2.2.2=c.2.2.2.2.2.2.2)∧K c)
theorem f38.ei {K:aF→Prop} {t:aF} (h:K t):f38.ent K t:=⟨t,⟨rfl,⟨rfl,⟨rfl,⟨rfl,⟨rfl,⟨rfl,slQ (Rds.self (enc:=aE)) (⟨rfl,⟨rfl,⟨rfl,h⟩⟩⟩)⟩⟩⟩⟩⟩⟩⟩
def f38.args (a:aF):List D:=[.agg [.str a.1,.str a.2.1,.int .i64 a.2.2.1,.int .i64 a.2.2.2.1.1,.int .i64 a.2.2.2.1.2.1,.int .i64 a.2.2.2.1.2.2,.slice .ro 2 a.2.2.2.2.1.length (gl aE a.2.2.2.2.1),.str a.2.2.2.2.2.1,.str a.2.2.2.2.2.2.1,.int .i64 a.2.2.2.2.2.2.2]]
def f38.blks (a:aF):List (List D):=[]
def f38.res (a:aF):List D:=[.bool (bL a)]
def f38.blks' (a:aF):List (List D):=[]
def f38.C:aM:=FnC f38.args f38.blks (fun a=>gJ a) f38.res f38.blks'
end Go.Abs

/- interregnum/interregnumref05.Task -/
namespace Go.Abs
open Go
set_option linter.unusedVariables false
def f38.kills (a:aF):List cB:=[]
def f38.cuts (a:aF):List (Nat×Σ β:Type,β→Tm):=[]
def f38.af (a:aF):AF:=AF.mk (.seq (.region [oT 1 0 .box [0],
 ⟨(some 2),1,.move,[.c (.bool false)],none⟩])
 (.seq (.seq (.region [oT 3 2 (.fieldAddr 0) [1],
 oT 4 3 (.load false 1) [3],
 oT 5 4 (.call false 58) [4],
 oT 6 8 (.un .not) [5],
 oT 7 9 .move [6],
 oG 8 10 (.fieldAddr 1) [1] 7 false,
 oG 9 11 (.load false 1) [8] 7 false,
 oG 10 12 (.call false 58) [9] 7 false,
 oG 11 16 (.un .not) [10] 7 false,
 ⟨(some 12),17,.pick,[.t 7,.c (.bool true),.t 11],none⟩,
 oT 13 18 .move [12],
 oG 14 19 (.fieldAddr 2) [1] 13 false,
 oG 15 20 (.load false 1) [14] 13 false,
 ⟨(some 16),21,(.bin .lss),[.t 15,.c (.int .i64 (0))],(some (13,false))⟩,
 ⟨(some 17),22,.pick,[.t 13,.c (.bool true),.t 16],none⟩,
 oT 18 23 .move [17],
 oG 19 24 (.fieldAddr 2) [1] 18 false,
 oG 20 25 (.load false 1) [19] 18 false,
 ⟨(some 21),26,(.bin .gtr),[.t 20,.c (.int .i64 (9))],(some (18,false))⟩,
 ⟨(some 22),27,.pick,[.t 18,.c (.bool true),.t 21],none⟩,
 oT 23 28 .move [22],
 oG 24 29 (.fieldAddr 3) [1] 23 false,
 oG 25 30 (.load true 3) [24] 23 false,
 oG 26 31 (.call false 55) [25] 23 false,
 oG 27 35 (.un .not) [26] 23 false,
 ⟨(some 28),36,.pick,[.t 23,.c (.bool true),.t 27],none⟩,
 oT 29 37 .move [28],
 oG 30 38 (.fieldAddr 6) [1] 29 false,
 oG 31 39 (.load false 1) [30] 29 false,
 oG 32 40 (.call false 59) [31] 29 false,
 oG 33 44 (.un .not) [32] 29 false,
 ⟨(some 34),45,.pick,[.t 29,.c (.bool true),.t 33],none⟩])
 (.cond (.t 34) (.seq (.region [⟨(some 2),46,.move,[.c (.bool false)],none⟩])
 (.ret)) (.skip)))
 (.seq (.seq (.region [oT 35 47 (.fieldAddr 7) [1],
 oT 36 48 (.load false 1) [35],
 ⟨(some 37),49,(.bin .neq),[.t 36,.c (.str ByteArray.empty)],none⟩,
 oT 38 50 .move [37],
 oG 39 51 (.fieldAddr 7) [1] 38 true,
 oG 40 52 (.load false 1) [39] 38 true,
 oG 41 53 (.call false 58) [40] 38 true,
 oG 42 57 (.un .not) [41] 38 true,
 ⟨(some 43),58,.pick,[.t 38,.t 42,.c (.bool false)],none⟩])
 (.cond (.t 43) (.seq (.region [⟨(some 2),59,.move,[.c (.bool false)],none⟩])
 (.ret)) (.skip)))
 (.seq (.seq (.region [oT 44 60 (.fieldAddr 8) [1],
 oT 45 61 (.load false 1) [44],
 ⟨(some 46),62,(.bin .eql),[.t 45,.c (.str ByteArray.empty)],none⟩])
 (.cond (.t 46) (.seq (.region [oT 47 63 (.fieldAddr 9) [1],
 oT 48 64 (.load false 1) [47],
 ⟨(some 49),65,(.bin .eql),[.t 48,.c (.int .i64 (0))],none⟩,
 oT 2 66 .move [49]])
 (.ret)) (.skip)))
 (.seq (.region [oT 50 67 (.fieldAddr 8) [1],
 oT 51 68 (.load false 1) [50],
 oT 52 69 (.call false 58) [51],
 oT 53 73 .move [52],
 oG 54 74 (.fieldAddr 9) [1] 53 true,
 oG 55 75 (.load false 1) [54] 53 true,
 ⟨(some 56),76,(.bin .geq),[.t 55,.c (.int .i64 (2))],(some (53,true))⟩,
 ⟨(some 57),77,.pick,[.t 53,.t 56,.c (.bool false)],none⟩,
 oT 58 78 .move [57],
 oG 59 79 (.fieldAddr 9) [1] 58 true,
 oG 60 80 (.load false 1) [59] 58 true,
 ⟨(some 61),81,(.bin .leq),[.t 60,.c (.int .i64 (4))],(some (58,true))⟩,
 ⟨(some 62),82,.pick,[.t 58,.t 61,.c (.bool false)],none⟩,
 oT 2 83 .move [62]])
 (.ret))))))
 [.tmp 2] 0 62
def f38.env:Env:=[(58,f58.C),(55,f55.C),(59,f59.C)]
def f38.tree (a:aF):Prop:=∃ c1:ByteArray,(a.1=c1)∧(aY c1)∧Br (!(a9 c1)) ((false=(bL a))∧True) (∃ c5:ByteArray,(a.2.1=c5)∧(aY c5)∧Br (!(a9 c5)) ((false=(bL a))∧True) (Br (decide (a.2.2.1 < (0:Int))) ((false=(bL a))∧True) (Br (decide ((9:Int) < a.2.2.1)) ((false=(bL a))∧True) (∃ c15:aD,(a.2.2.2.1.1=c15.1)∧(a.2.2.2.1.2.1=c15.2.1)∧(a.2.2.2.1.2.2=c15.2.2)∧True∧Br (!(aN c15)) ((false=(bL a))∧True) (f59.ent (fun c19=>(eE c19)∧Br (!(bJ c19)) ((false=(bL a))∧True) (Br (!(a.2.2.2.2.2.1.toList==ByteArray.empty.toList)) (∃ c25:ByteArray,(a.2.2.2.2.2.1=c25)∧(aY c25)∧Br (!(a9 c25)) ((false=(bL a))∧True) (Br (a.2.2.2.2.2.2.1.toList==ByteArray.empty.toList) (((a.2.2.2.2.2.2.2==(0:Int))=(bL a))∧True) (∃ c32:ByteArray,(a.2.2.2.2.2.2.1=c32)∧(aY c32)∧Br (a9 c32) (Br (decide ((2:Int)≤a.2.2.2.2.2.2.2)) (((decide (a.2.2.2.2.2.2.2≤(4:Int)))=(bL a))∧True) ((false=(bL a))∧True)) ((false=(bL a))∧True)))) (Br (a.2.2.2.2.2.2.1.toList==ByteArray.empty.toList) (((a.2.2.2.2.2.2.2==(0:Int))=(bL a))∧True) (∃ c53:ByteArray,(a.2.2.2.2.2.2.1=c53)∧(aY c53)∧Br (a9 c53) (Br (decide ((2:Int)≤a.2.2.2.2.2.2.2)) (((decide (a.2.2.2.2.2.2.2≤(4:Int)))=(bL a))∧True) ((false=(bL a))∧True)) ((false=(bL a))∧True))))) a.2.2.2.2.1)))))
def f38.vc (a:aF):Prop:=(aY a.1∧((¬((a9 (a.1))=true)→(false=bL a))∧(¬(¬((a9 (a.1))=true))→(aY a.2.1∧((¬((a9 (a.2.1))=true)→(false=bL a))∧(¬(¬((a9 (a.2.1))=true))→((a.2.2.1 < (0:Int)→(false=bL a))∧(¬(a.2.2.1 < (0:Int))→(((9:Int) < a.2.2.1→(false=bL a))∧(¬((9:Int) < a.2.2.1)→((¬((aN (a.2.2.2.1))=true)→(false=bL a))∧(¬(¬((aN (a.2.2.2.1))=true))→(eE a.2.2.2.2.1∧((¬((bJ (a.2.2.2.2.1))=true)→(false=bL a))∧(¬(¬((bJ (a.2.2.2.2.1))=true))→((¬(a.2.2.2.2.2.1=ByteArray.empty)→(aY a.2.2.2.2.2.1∧((¬((a9 (a.2.2.2.2.2.1))=true)→(false=bL a))∧(¬(¬((a9 (a.2.2.2.2.2.1))=true))→((a.2.2.2.2.2.2.1=ByteArray.empty→((a.2.2.2.2.2.2.2==(0:Int))=bL a))∧(¬(a.2.2.2.2.2.2.1=ByteArray.empty)→(aY a.2.2.2.2.2.2.1∧(((a9 (a.2.2.2.2.2.2.1))=true→(((2:Int)≤a.2.2.2.2.2.2.2→(decide (a.2.2.2.2.2.2.2≤(4:Int))=bL a))∧(¬((2:Int)≤a.2.2.2.2.2.2.2)→(false=bL a))))∧(¬((a9 (a.2.2.2.2.2.2.1))=true)→(false=bL a))))))))))∧(¬(¬(a.2.2.2.2.2.1=ByteArray.empty))→((a.2.2.2.2.2.2.1=ByteArray.empty→((a.2.2.2.2.2.2.2==(0:Int))=bL a))∧(¬(a.2.2.2.2.2.2.1=ByteArray.empty)→(aY a.2.2.2.2.2.2.1∧(((a9 (a.2.2.2.2.2.2.1))=true→(((2:Int)≤a.2.2.2.2.2.2.2→(decide (a.2.2.2.2.2.2.2≤(4:Int))=bL a))∧(¬((2:Int)≤a.2.2.2.2.2.2.2)→(false=bL a))))∧(¬((a9 (a.2.2.2.2.2.2.1))=true)→(false=bL a)))))))))))))))))))))))
set_option maxRecDepth 100000 in
set_option maxHeartbeats 2000000 in
theorem f38.of (a:aF) (h:f38.vc a):f38.tree a:=⟨a.1,⟨rfl,⟨h.1,br h.2 (Cnd.not Cnd.b) (fun h2 k83=>⟨k83,trivial⟩) (fun h3 k84=>⟨a.2.1,⟨rfl,⟨k84.1,br k84.2 (Cnd.not Cnd.b) (fun h6 k80=>⟨k80,trivial⟩) (fun h7 k81=>br k81 Cnd.dec (fun h9 k78=>⟨k78,trivial⟩) (fun h10 k79=>br k79 Cnd.dec (fun h12 k76=>⟨k76,trivial⟩) (fun h13 k77=>⟨a.2.2.2.1,⟨rfl,⟨rfl,⟨rfl,⟨trivial,br k77 (Cnd.not Cnd.b) (fun h16 k73=>⟨k73,trivial⟩) (fun h17 k74=>(f59.ei ⟨k74.1,br k74.2 (Cnd.not Cnd.b) (fun h20 k70=>⟨k70,trivial⟩) (fun h21 k71=>br k71 (Cnd.not Cnd.seq) (fun h23 k68=>⟨a.2.2.2.2.2.1,⟨rfl,⟨k68.1,br k68.2 (Cnd.not Cnd.b) (fun h26 k47=>⟨k47,trivial⟩) (fun h27 k48=>br k48 Cnd.seq (fun h29 k45=>⟨k45,trivial⟩) (fun h30 k46=>⟨a.2.2.2.2.2.2.1,⟨rfl,⟨k46.1,br k46.2 Cnd.b (fun h33 k42=>br k42 Cnd.dec (fun h35 k39=>⟨k39,trivial⟩) (fun h36 k40=>⟨k40,trivial⟩)) (fun h34 k43=>⟨k43,trivial⟩)⟩⟩⟩))⟩⟩⟩) (fun h24 k69=>br k69 Cnd.seq (fun h50 k66=>⟨k66,trivial⟩) (fun h51 k67=>⟨a.2.2.2.2.2.2.1,⟨rfl,⟨k67.1,br k67.2 Cnd.b (fun h54 k63=>br k63 Cnd.dec (fun h56 k60=>⟨k60,trivial⟩) (fun h57 k61=>⟨k61,trivial⟩)) (fun h55 k64=>⟨k64,trivial⟩)⟩⟩⟩)))⟩))⟩⟩⟩⟩⟩)))⟩⟩⟩)⟩⟩⟩
theorem f38.eq (a:aF):(f38.af a).gives f38.env (f38.args a) (f38.blks a) (f38.res a) (f38.blks' a)=f38.tree a:=by kernel_rfl
end Go.Abs

/- Names,labels,tasks: what the code asks is so. -/
namespace Go.Abs
open Go

theorem f5 {s:ByteArray} (h:a9 s≠true):false=a9 s:=by
 cases hh:a9 s with
 | false=>rfl
 | true=>exact absurd hh h

theorem f48.ok (a:ByteArray) (h:aY a):f48.vc a:=by
 unfold f48.vc
 refine ⟨fun h0=>⟨fun h1=>⟨?_,fun h2=>⟨h,?_⟩,fun h2=>?_⟩,fun h1=>?_⟩,fun h0=>?_⟩
 ·have:a.size≠0:=fun hh=>h0 (eV.2 hh)
  omega
 ·have hs:1≤a.size:=by
   have:a.size≠0:=fun hh=>h0 (eV.2 hh)
   omega
  rw [Bool.eq_iff_iff,Bool.not_eq_true',aCS,gC]
  exact ⟨fun h3=>⟨hs,by omega,h2,h3⟩,fun h3=>h3.2.2.2⟩
 ·exact f5 fun hh=>h2 (gC.1 hh).2.2.1
 ·exact f5 fun hh=>by have:=(gC.1 hh).2.1; omega
 ·have h0:=Classical.not_not.1 h0
  exact f5 fun hh=>by have:=(gC.1 hh).1; rw [eV.1 h0] at this; omega

theorem f58.ok (a:ByteArray) (h:aY a):f58.vc a:=by
 unfold aY at h
 unfold f58.vc
 refine ⟨fun h0=>f5 fun hh=>by have:=(gC.1 hh).1; omega,fun h0=>⟨fun h1=>f5 fun hh=>by have:=(gC.1 hh).2.1; omega,fun h1=>⟨by omega,fun h2=>f5 fun hh=>(gC.1 hh).2.2.1 h2,fun h2=>?_⟩⟩⟩
 refine ⟨fun y=>0≤y∧y≤(a.size:Int)∧∀ (i:Nat) (x:UInt8),i < y.toNat→a.data.toList[i]? = some x→ltr x=true,fun y=>a.size - y.toNat,⟨by omega,by omega,fun i x hi=>by simp at hi⟩,fun y hy=>?_⟩
 obtain ⟨g0,g1,g2⟩:=hy
 have hlen:=tB a
 refine ⟨fun hlt=>⟨g0,hlt,?_⟩,fun hge=>?_⟩
 ·have hp:y.toNat < a.data.toList.length:=by omega
  have hb:bAt a y=((a.data.toList[y.toNat]'hp).toNat:Int):=by unfold bAt; rw [d9 _ _ hp]
  have hbad:¬ltr (a.data.toList[y.toNat]'hp)=true→false=a9 a:=fun hn=>f5 fun hh=>hn ((gC.1 hh).2.2.2 y.toNat _ (List.getElem?_eq_getElem hp))
  have hgood:ltr (a.data.toList[y.toNat]'hp)=true→-9223372036854775808≤(y+(1:Int))∧(y+(1:Int))≤9223372036854775807∧(0≤y+1∧y+1≤(a.size:Int)∧∀ (i:Nat) (x:UInt8),i < (y+1).toNat→a.data.toList[i]? = some x→ltr x=true)∧a.size - (y+1).toNat < a.size - y.toNat:=fun hg=>by
   refine ⟨by omega,by omega,⟨by omega,by omega,fun i x hi hx=>?_⟩,by omega⟩
   by_cases he:i=y.toNat
   ·subst he
    rw [List.getElem?_eq_getElem hp] at hx
    cases hx
    exact hg
   ·exact g2 i x (by omega) hx
  rw [aHH] at hbad hgood
  generalize a.data.toList[y.toNat]'hp=x at hb hbad hgood
  rw [hb]
  refine ⟨fun c1=>⟨fun c2=>⟨fun c3=>hbad (by omega),fun c3=>hgood (by omega)⟩,fun c2=>⟨fun c3=>⟨fun c4=>hbad (by omega),fun c4=>hgood (by omega)⟩,fun c3=>hgood (by omega)⟩⟩,
   fun c1=>⟨fun c2=>⟨fun c3=>⟨fun c4=>hbad (by omega),fun c4=>hgood (by omega)⟩,fun c3=>⟨fun c4=>⟨fun c5=>hbad (by omega),fun c5=>hgood (by omega)⟩,fun c4=>hgood (by omega)⟩⟩,fun c2=>hgood (by omega)⟩⟩
 ·symm
  rw [gC]
  exact ⟨by omega,by omega,h2,fun i x hx=>g2 i x (by have:=(List.getElem?_eq_some_iff.1 hx).1; omega) hx⟩

theorem iT {l:List hO} (h:bJ l≠true):false=bJ l:=by
 cases hh:bJ l with
 | false=>rfl
 | true=>exact absurd hh h

theorem wU {l:List hO} {i:Nat}:mW l i=true↔a9 (l.getD i default).1=true∧a9 (l.getD i default).2=true∧(i=0∨sLt (l.getD (i - 1) default).1 (l.getD i default).1):=by
 unfold mW
 simp only [Bool.and_eq_true,Bool.or_eq_true,beq_iff_eq,and_assoc,yZ]

theorem f50.ok (a:List hO) (h:eE a):f50.vc a:=by
 unfold f50.vc
 refine ⟨fun h0=>iT fun hh=>by have:=(hG.1 hh).1; omega,fun h0=>?_⟩
 refine ⟨fun y=>0≤y.2∧y.2≤(a.length:Int)∧(∀ i,i < y.2.toNat→mW a i=true)∧(0 < y.2→y.1=(at_ a (y.2 - 1)).1),fun y=>a.length - y.2.toNat,⟨by simp only; omega,by simp only; omega,fun i hi=>by simp at hi,fun h=>by simp at h⟩,fun y hy=>?_⟩
 obtain ⟨last,y⟩:=y
 obtain ⟨g0,g1,g2,g3⟩:=hy
 simp only at g0 g1 g2 g3 ⊢
 refine ⟨fun hlt=>?_,fun hge=>?_⟩
 ·obtain ⟨n1,n2⟩:=h _ (aG0 g0 hlt)
  have hbad:¬mW a y.toNat=true→false=bJ a:=fun hn=>iT fun hh=>hn ((hG.1 hh).2 _ (by omega))
  have hgood:mW a y.toNat=true→-9223372036854775808≤(y+(1:Int))∧(y+(1:Int))≤9223372036854775807∧(0≤y+1∧y+1≤(a.length:Int)∧(∀ i,i < (y+1).toNat→mW a i=true)∧(0 < y+1→(at_ a y).1=(at_ a (y+1 - 1)).1))∧a.length - (y+1).toNat < a.length - y.toNat:=fun hg=>by
   refine ⟨by omega,by omega,⟨by omega,by omega,fun i hi=>?_,fun _=>by rw [Int.add_sub_cancel]⟩,by omega⟩
   by_cases he:i=y.toNat
   ·subst he; exact hg
   ·exact g2 i (by omega)
  rw [wU,← qY] at hbad hgood
  have hprev:0 < y→(a.getD (y.toNat - 1) default)=at_ a (y - 1):=fun _=>by unfold at_; congr 1; omega
  refine ⟨g0,hlt,n1,fun c1=>hbad fun hh=>c1 hh.1,fun c1=>⟨n2,fun c2=>hbad fun hh=>c2 hh.2.1,fun c2=>⟨fun c3=>⟨fun c4=>?_,fun c4=>?_⟩,fun c3=>?_⟩⟩⟩
  ·refine hbad fun hh=>?_
   rcases hh.2.2 with h1 | h1
   ·omega
   ·rw [hprev c3,← g3 c3] at h1
    have:=aDO.2 c4
    rw [yZ.2 h1] at this
    cases this
  ·refine hgood ⟨Classical.not_not.1 c1,Classical.not_not.1 c2,.inr ?_⟩
   rw [hprev c3,← g3 c3]
   cases hh:slt last (at_ a y).1 with
   | true=>exact yZ.1 hh
   | false=>exact absurd (aDO.1 hh) c4
  ·exact hgood ⟨Classical.not_not.1 c1,Classical.not_not.1 c2,.inl (by omega)⟩
 ·symm
  rw [hG]
  exact ⟨by omega,fun i hi=>g2 i (by omega)⟩

theorem f59.ok (a:List hO) (h:eE a):f59.vc a:=by
 unfold f59.vc
 refine ⟨fun h0=>iT fun hh=>by have:=(hG.1 hh).1; omega,fun h0=>?_⟩
 refine ⟨fun y=>0≤y∧y≤(a.length:Int)∧(∀ i,i < y.toNat→mW a i=true),fun y=>a.length - y.toNat,⟨by omega,by omega,fun i hi=>by simp at hi⟩,fun y hy=>?_⟩
 obtain ⟨g0,g1,g2⟩:=hy
 refine ⟨fun hlt=>?_,fun hge=>?_⟩
 ·obtain ⟨n1,n2⟩:=h _ (aG0 g0 hlt)
  have hbad:¬mW a y.toNat=true→false=bJ a:=fun hn=>iT fun hh=>hn ((hG.1 hh).2 _ (by omega))
  have hgood:mW a y.toNat=true→-9223372036854775808≤(y+(1:Int))∧(y+(1:Int))≤9223372036854775807∧(0≤y+1∧y+1≤(a.length:Int)∧(∀ i,i < (y+1).toNat→mW a i=true))∧a.length - (y+1).toNat < a.length - y.toNat:=fun hg=>by
   refine ⟨by omega,by omega,⟨by omega,by omega,fun i hi=>?_⟩,by omega⟩
   by_cases he:i=y.toNat
   ·subst he; exact hg
   ·exact g2 i (by omega)
  rw [wU,← qY] at hbad hgood
  have hprev:0 < y→(a.getD (y.toNat - 1) default)=at_ a (y - 1):=fun _=>by unfold at_; congr 1; omega
  refine ⟨g0,hlt,n1,fun c1=>hbad fun hh=>c1 hh.1,fun c1=>⟨g0,hlt,n2,fun c2=>hbad fun hh=>c2 hh.2.1,fun c2=>⟨fun c3=>⟨by omega,by omega,by omega,by omega,g0,hlt,fun c4=>?_,fun c4=>?_⟩,fun c3=>?_⟩⟩⟩
  ·refine hbad fun hh=>?_
   rcases hh.2.2 with h1 | h1
   ·omega
   ·rw [hprev c3] at h1
    exact c4 h1
  ·refine hgood ⟨Classical.not_not.1 c1,Classical.not_not.1 c2,.inr ?_⟩
   rw [hprev c3]
   exact Classical.not_not.1 c4
  ·exact hgood ⟨Classical.not_not.1 c1,Classical.not_not.1 c2,.inl (by omega)⟩
 ·symm
  rw [hG]
  exact ⟨by omega,fun i hi=>g2 i (by omega)⟩

theorem yF {l:b8} (h:aN l≠true):false=aN l:=by
 cases hh:aN l with
 | false=>rfl
 | true=>exact absurd hh h

theorem aAO (a:b8):f49.vc a:=by
 unfold f49.vc
 have hb:¬((0≤a.1∧a.1≤1048576)∧(0≤a.2.1∧a.2.1≤1048576)∧(0≤a.2.2∧a.2.2≤1048576))→false=aN a:=fun h=>yF fun hh=>h (cA.1 hh)
 refine ⟨fun h=>hb (by omega),fun h1=>⟨fun h=>hb (by omega),fun h2=>⟨fun h=>hb (by omega),fun h3=>⟨fun h=>hb (by omega),fun h4=>⟨fun h=>hb (by omega),fun h5=>⟨fun h=>hb (by omega),fun h6=>?_⟩⟩⟩⟩⟩⟩
 symm
 rw [cA]
 omega

theorem f49.ok (a:b8) (_:True):f49.vc a:=aAO a
theorem f55.ok (a:b8) (_:True):f55.vc a:=aAO a

theorem f35.ok (a:w5) (h:fH a):f35.vc a:=by
 obtain ⟨h1,h2⟩:=h
 refine ⟨h1,fun c1=>⟨fun c2=>⟨h2,?_⟩,fun c2=>?_⟩,fun c1=>?_⟩
 ·unfold fI; rw [c1,c2]; rfl
 ·unfold fI; rw [c1,Bool.eq_false_iff.2 c2]; rfl
 ·unfold fI; rw [Bool.eq_false_iff.2 c1]; rfl
theorem f36.ok (a:w5) (h:fH a):f36.vc a:=f35.ok a h

theorem f51.ok (a:ByteArray) (h:aY a):f51.vc a:=by
 refine ⟨fun c1=>?_,fun c1=>⟨h,?_⟩⟩
 ·subst c1; rfl
 ·unfold d8
  have:(a.size==0)=false:=by
   rw [beq_eq_false_iff_ne]
   exact fun hh=>c1 (eV.2 hh)
  rw [this]; rfl

theorem cE {t:bO} (h:¬(a9 t.1=true∧a9 t.2.1=true∧(0≤t.2.2.1∧t.2.2.1≤9)∧aN t.2.2.2.1=true∧bJ t.2.2.2.2.1=true∧d8 t.2.2.2.2.2.1=true∧d8 t.2.2.2.2.2.2.1=true∧vK t.2.2.2.2.2.2.1 t.2.2.2.2.2.2.2=true)):false=bL t:=by
 cases hh:bL t with
 | false=>rfl
 | true=>exact absurd (sI.1 hh) h

theorem f24.ok (a:bO) (h:gJ a):f24.vc a:=by
 obtain ⟨p1,p2,p3,p4,p5⟩:=h
 unfold f24.vc
 refine ⟨p1,fun c=>cE fun hh=>c hh.1,fun c1=>⟨p2,fun c=>cE fun hh=>c hh.2.1,fun c2=>⟨fun c=>cE fun hh=>by have:=hh.2.2.1; omega,fun c3=>⟨fun c=>cE fun hh=>by have:=hh.2.2.1; omega,fun c4 =>
  ⟨fun c=>cE fun hh=>c hh.2.2.2.1,fun c5=>⟨p3,fun c=>cE fun hh=>c hh.2.2.2.2.1,fun c6=>⟨p4,fun c=>cE fun hh=>c hh.2.2.2.2.2.1,fun c7=>⟨p5,fun c=>cE fun hh=>c hh.2.2.2.2.2.2.1,fun c8=>?_⟩⟩⟩⟩⟩⟩⟩⟩
 have e:bL a=vK a.2.2.2.2.2.2.1 a.2.2.2.2.2.2.2:=by
  rw [Bool.eq_iff_iff,sI]
  exact ⟨fun h=>h.2.2.2.2.2.2.2,fun h=>⟨Classical.not_not.1 c1,Classical.not_not.1 c2,⟨by omega,by omega⟩,Classical.not_not.1 c5,Classical.not_not.1 c6,Classical.not_not.1 c7,Classical.not_not.1 c8,h⟩⟩
 rw [e]
 refine ⟨fun c=>?_,fun c=>⟨fun d=>?_,fun d=>?_⟩⟩
 ·rw [Bool.eq_iff_iff,jU,beq_iff_eq]
  have:=eV.1 c
  omega
 ·have:a.2.2.2.2.2.2.1.size≠0:=fun hh=>c (eV.2 hh)
  rw [Bool.eq_iff_iff,jU,decide_eq_true_eq]
  omega
 ·have:a.2.2.2.2.2.2.1.size≠0:=fun hh=>c (eV.2 hh)
  rw [Bool.eq_iff_iff,jU]
  constructor
  ·intro h; cases h
  ·intro h; omega

theorem f38.ok (a:bO) (h:gJ a):f38.vc a:=by
 obtain ⟨p1,p2,p3,p4,p5⟩:=h
 unfold f38.vc
 have maybe_e:∀ s:ByteArray,s=ByteArray.empty→d8 s=true:=fun s hs=>by subst hs; rfl
 have maybe_n:∀ s:ByteArray,a9 s=true→d8 s=true:=fun s hs=>by unfold d8; rw [hs,Bool.or_true]
 have maybe_c:∀ s:ByteArray,¬s=ByteArray.empty→d8 s=true→a9 s=true:=fun s hs hm=>by
  unfold d8 at hm
  simp only [Bool.or_eq_true,beq_iff_eq] at hm
  exact hm.resolve_left fun hh=>hs (eV.2 hh)
 refine ⟨p1,fun c=>cE fun hh=>c hh.1,fun c1=>⟨p2,fun c=>cE fun hh=>c hh.2.1,fun c2=>⟨fun c=>cE fun hh=>by have:=hh.2.2.1; omega,fun c3=>⟨fun c=>cE fun hh=>by have:=hh.2.2.1; omega,fun c4 =>
  ⟨fun c=>cE fun hh=>c hh.2.2.2.1,fun c5=>⟨p3,fun c=>cE fun hh=>c hh.2.2.2.2.1,fun c6=>?_⟩⟩⟩⟩⟩⟩
 have rest:d8 a.2.2.2.2.2.1=true →
   (a.2.2.2.2.2.2.1=ByteArray.empty→((a.2.2.2.2.2.2.2==(0:Int))=bL a)) ∧
   (¬(a.2.2.2.2.2.2.1=ByteArray.empty)→aY a.2.2.2.2.2.2.1 ∧
    ((a9 (a.2.2.2.2.2.2.1))=true→((2:Int)≤a.2.2.2.2.2.2.2→(decide (a.2.2.2.2.2.2.2≤(4:Int))=bL a))∧(¬((2:Int)≤a.2.2.2.2.2.2.2)→(false=bL a))) ∧
    (¬((a9 (a.2.2.2.2.2.2.1))=true)→(false=bL a))):=fun c7=>by
  have e:d8 a.2.2.2.2.2.2.1=true→bL a=vK a.2.2.2.2.2.2.1 a.2.2.2.2.2.2.2:=fun c8=>by
   rw [Bool.eq_iff_iff,sI]
   exact ⟨fun h=>h.2.2.2.2.2.2.2,fun h=>⟨Classical.not_not.1 c1,Classical.not_not.1 c2,⟨by omega,by omega⟩,Classical.not_not.1 c5,Classical.not_not.1 c6,c7,c8,h⟩⟩
  refine ⟨fun c=>?_,fun c=>⟨p5,fun d=>⟨fun d1=>?_,fun d1=>?_⟩,fun d=>cE fun hh=>d (maybe_c _ c hh.2.2.2.2.2.2.1)⟩⟩
  ·rw [e (maybe_e _ c),Bool.eq_iff_iff,jU,beq_iff_eq]
   have:=eV.1 c
   omega
  ·have:a.2.2.2.2.2.2.1.size≠0:=fun hh=>c (eV.2 hh)
   rw [e (maybe_n _ d),Bool.eq_iff_iff,jU,decide_eq_true_eq]
   omega
  ·have:a.2.2.2.2.2.2.1.size≠0:=fun hh=>c (eV.2 hh)
   rw [e (maybe_n _ d),Bool.eq_iff_iff,jU]
   constructor
   ·intro h; cases h
   ·intro h; omega
 refine ⟨fun c=>⟨p4,fun d=>cE fun hh=>d (maybe_c _ c hh.2.2.2.2.2.1),fun d=>rest (maybe_n _ (Classical.not_not.1 d))⟩,fun c=>rest (maybe_e _ (Classical.not_not.1 c))⟩

end Go.Abs
