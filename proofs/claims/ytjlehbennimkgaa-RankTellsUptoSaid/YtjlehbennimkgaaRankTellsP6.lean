/- Functions, and what the code asks of them: PModel. -/
import Derived.KernelRfl
import Derived.Test.YtjlehbennimkgaaRankTellsP4
import Derived.Test.YtjlehbennimkgaaRankTellsP5
set_option maxRecDepth 100000
set_option maxHeartbeats 4000000
set_option linter.unusedVariables false
set_option linter.unusedSimpArgs false
namespace Go.Abs
open Go
abbrev dO:=Int×Int×Int
abbrev gT:=ByteArray×ByteArray
abbrev yB:=ByteArray×dO×List gT
abbrev cJ:=ByteArray×ByteArray×Int×dO×List gT×ByteArray×ByteArray×Int
abbrev dW:=cJ×Int×ByteArray×Int
def slt (a b:ByteArray):Bool:=Op.bytesLess a.toList b.toList
def bB (s:ByteArray):Bool:=decide (1≤s.size∧s.size≤16)&&(nth s.data.toList 0 0 != 45)&&s.data.toList.all ltr
def okN (n:Int):Bool:=decide (0≤n∧n≤1048576)
def aR (r:dO):Bool:=okN r.1&&okN r.2.1&&okN r.2.2
def mQ (l:List gT) (i:Nat):Bool:=bB (l.getD i default).1&&bB (l.getD i default).2&&(i==0 || slt (l.getD (i - 1) default).1 (l.getD i default).1)
def bL (l:List gT):Bool:=decide (l.length≤4)&&(List.range l.length).all (mQ l)
def fM (n:yB):Bool:=bB n.1&&aR n.2.1&&bL n.2.2
def dQ (s:ByteArray):Bool:=s.size==0 || bB s
def uB (g:ByteArray) (n:Int):Bool:=if g.size=0 then n==0 else decide (2≤n∧n≤4)
def bM (t:cJ):Bool:=bB t.1&&bB t.2.1&&decide (0≤t.2.2.1∧t.2.2.1≤9)&&aR t.2.2.2.1&&bL t.2.2.2.2.1&&dQ t.2.2.2.2.2.1&&dQ t.2.2.2.2.2.2.1&&uB t.2.2.2.2.2.2.1 t.2.2.2.2.2.2.2
def a7 (s:ByteArray):Prop:=s.size≤1073741824
def d6 (l:List gT):Prop:=∀ x∈l,x.1.size≤1073741824∧x.2.size≤1073741824
def fJ (n:yB):Prop:=a7 n.1∧d6 n.2.2
def gE (t:cJ):Prop:=a7 t.1∧a7 t.2.1∧d6 t.2.2.2.2.1∧a7 t.2.2.2.2.2.1∧a7 t.2.2.2.2.2.2.1
theorem kG:∀ x:List UInt8,Op.bytesLess x x=false
 | []=>rfl
 | a::x=>by
  have h:(a < a)=False:=by simp
  simp [Op.bytesLess,kG x]
theorem rH:∀ x y:List UInt8,Op.bytesLess x y=true∨x=y∨Op.bytesLess y x=true
 | [],[]=>.inr (.inl rfl)
 | [],_::_=>.inl rfl
 | _::_,[]=>.inr (.inr rfl)
 | a::x,b::y=>by
  simp only [Op.bytesLess,Bool.or_eq_true,Bool.and_eq_true,decide_eq_true_eq,beq_iff_eq,List.cons.injEq]
  rcases Nat.lt_trichotomy a.toNat b.toNat with h | h | h
  ·exact .inl (.inl (UInt8.lt_iff_toNat_lt.2 h))
  ·have h:a=b:=UInt8.toNat_inj.1 h
   subst h
   rcases rH x y with h | h | h
   ·exact .inl (.inr ⟨rfl,h⟩)
   ·exact .inr (.inl ⟨rfl,h⟩)
   ·exact .inr (.inr (.inr ⟨rfl,h⟩))
  ·exact .inr (.inr (.inl (UInt8.lt_iff_toNat_lt.2 h)))
theorem mF:∀ {x y z:List UInt8},Op.bytesLess x y=true→Op.bytesLess y z=true→Op.bytesLess x z=true
 | [],[],_,h,_=>by cases h
 | [],_::_,[],_,h=>by cases h
 | [],_::_,_::_,_,_=>rfl
 | _::_,[],_,h,_=>by cases h
 | _::_,_::_,[],_,h=>by cases h
 | a::x,b::y,c::z,h,k=>by
  simp only [Op.bytesLess,Bool.or_eq_true,Bool.and_eq_true,decide_eq_true_eq,beq_iff_eq] at h k ⊢
  rcases h with h | ⟨rfl,h⟩ <;> rcases k with k | ⟨rfl,k⟩
  ·exact .inl (UInt8.lt_trans h k)
  ·exact .inl h
  ·exact .inl k
  ·exact .inr ⟨rfl,mF h k⟩
theorem aDG {x y:List UInt8} (h:Op.bytesLess x y=true):Op.bytesLess y x=false:=by
 cases hh:Op.bytesLess y x with
 | false=>rfl
 | true=>rw [← kG x,mF h hh]
theorem aAA {a b:ByteArray}:slt a b=true↔sLt a b:=Iff.rfl
theorem aEI {a b:ByteArray}:slt a b=false↔sLe b a:=by
 unfold slt sLe sLt
 constructor
 ·intro h
  rcases rH a.toList b.toList with h1 | h1 | h1
  ·rw [h] at h1; cases h1
  ·exact .inr (toList_inj.1 h1.symm)
  ·exact .inl h1
 ·rintro (h | rfl)
  ·exact aDG h
  ·exact kG _
theorem aIU (x:UInt8):ltr x=true↔(97≤x.toNat∧x.toNat≤122)∨(48≤x.toNat∧x.toNat≤57)∨x.toNat=45:=by
 unfold ltr
 simp only [Bool.or_eq_true,Bool.and_eq_true,decide_eq_true_eq,beq_iff_eq,UInt8.le_iff_toNat_le,or_assoc]
 have:x=45↔x.toNat=45:=⟨fun h=>by subst h; rfl,fun h=>UInt8.toNat_inj.1 h⟩
 rw [this]
 rfl
theorem eP {a:ByteArray}:a=ByteArray.empty↔a.size=0:=⟨fun h=>by subst h; rfl,fun h=>r6 (by
 have:=sN a
 rw [h] at this
 rw [List.length_eq_zero_iff.1 this]; rfl)⟩
theorem f6 {s:ByteArray}:bB s=true↔1≤s.size∧s.size≤16∧bAt s 0≠45∧∀ (i:Nat) (x:UInt8),s.data.toList[i]? = some x→ltr x=true:=by
 unfold bB
 have e:nth s.data.toList 0 0≠45↔bAt s 0≠45:=by
  unfold bAt
  have:nth s.data.toList (Int.toNat 0) 0=45↔(nth s.data.toList (Int.toNat 0) 0).toNat=45:=⟨fun h=>by rw [h]; rfl,fun h=>UInt8.toNat_inj.1 h⟩
  show nth s.data.toList (Int.toNat 0) 0≠45↔_
  rw [Ne,this]
  omega
 simp only [Bool.and_eq_true,decide_eq_true_eq,bne_iff_ne,List.all_eq_true,e,and_assoc]
 constructor
 ·rintro ⟨h1,h2,h3,h4⟩
  exact ⟨h1,h2,h3,fun i x hx=>h4 x (List.mem_of_getElem? hx)⟩
 ·rintro ⟨h1,h2,h3,h4⟩
  exact ⟨h1,h2,h3,fun x hx=>by
   obtain ⟨i,hi⟩:=List.getElem?_of_mem hx
   exact h4 i x hi⟩
theorem aFL {l:List UInt8}:pZ l < 0↔∀ (i:Nat) (x:UInt8),l[i]? = some x→ltr x=true:=by
 unfold pZ
 constructor
 ·intro h i x hx
  cases hf:l.findIdx? (fun x=>!ltr x) with
  | none =>
   have:=List.findIdx?_eq_none_iff.1 hf x (List.mem_of_getElem? hx)
   simpa using this
  | some j=>rw [hf] at h; simp only at h; omega
 ·intro h
  rw [List.findIdx?_eq_none_iff.2 fun x hx=>by
   obtain ⟨i,hi⟩:=List.getElem?_of_mem hx
   simp [h i x hi]]
  decide
theorem aC0 {s:ByteArray}:pA s=false↔∀ (i:Nat) (x:UInt8),s.data.toList[i]? = some x→ltr x=true:=by
 unfold pA
 rw [decide_eq_false_iff_not,← aFL]
 omega
theorem qW {α:Type} [Inhabited α] (l:List α) (i:Int):at_ l i=l.getD i.toNat default:=rfl
theorem gP {l:List gT}:bL l=true↔l.length≤4∧∀ i,i < l.length→mQ l i=true:=by
 unfold bL
 simp only [Bool.and_eq_true,decide_eq_true_eq,List.all_eq_true,List.mem_range]
theorem kX {α:Type} [Inhabited α] {l:List α} {i:Nat} (h:i < l.length):l.getD i default∈l:=by
 rw [List.getD_eq_getElem?_getD,List.getElem?_eq_getElem h]
 exact List.getElem_mem h
theorem aGO {α:Type} [Inhabited α] {l:List α} {i:Int} (h0:0≤i) (h:i < (l.length:Int)):at_ l i∈l:=kX (by omega)
theorem fG {r:dO}:aR r=true↔(0≤r.1∧r.1≤1048576)∧(0≤r.2.1∧r.2.1≤1048576)∧(0≤r.2.2∧r.2.2≤1048576):=by
 unfold aR okN
 simp only [Bool.and_eq_true,decide_eq_true_eq,and_assoc]
theorem r7 {t:cJ}:bM t=true↔bB t.1=true∧bB t.2.1=true∧(0≤t.2.2.1∧t.2.2.1≤9)∧aR t.2.2.2.1=true∧bL t.2.2.2.2.1=true∧dQ t.2.2.2.2.2.1=true∧dQ t.2.2.2.2.2.2.1=true∧uB t.2.2.2.2.2.2.1 t.2.2.2.2.2.2.2=true:=by
 unfold bM
 simp only [Bool.and_eq_true,decide_eq_true_eq,and_assoc]
theorem jG {g:ByteArray} {n:Int}:uB g n=true↔(g.size=0∧n=0)∨(g.size≠0∧2≤n∧n≤4):=by
 unfold uB
 split
 ·rename_i h; simp [h]
 ·rename_i h; simp [h]
def f48.args (a:ByteArray):List D:=[.str a]
def f48.blks (a:ByteArray):List (List D):=[]
def f48.res (a:ByteArray):List D:=[.bool (bB a)]
def f48.blks' (a:ByteArray):List (List D):=[]
def f48.C:aN:=FnC f48.args f48.blks (fun a=>a7 a) f48.res f48.blks'
set_option linter.unusedVariables false
def f48.kills (a:ByteArray):List Hint:=[]
def f48.cuts (a:ByteArray):List (Nat×Σ β:Type,β→Tm):=[]
def f48.af (a:ByteArray):AF:=AF.mk (.seq (.region [⟨(some 2),0,.move,[.c (.bool false)],none⟩])
 (.seq (.region [mT 3 1 0,
 ⟨(some 4),2,(.bin .neq),[.t 3,.c (.str ByteArray.empty)],none⟩,
 mT 5 3 4,
 oG 6 4 .move [0] 5 true,
 oG 7 5 (.len true) [6] 5 true,
 ⟨(some 8),6,(.bin .leq),[.t 7,.c (.int .i64 (16))],(some (5,true))⟩,
 ⟨(some 9),7,.pick,[.t 5,.t 8,.c (.bool false)],none⟩,
 mT 10 8 9,
 oG 11 9 .move [0] 10 true,
 ⟨(some 12),10,.indexStr,[.t 11,.c (.int .i64 (0))],(some (10,true))⟩,
 ⟨(some 13),11,(.bin .neq),[.t 12,.c (.int .u8 (45))],(some (10,true))⟩,
 ⟨(some 14),12,.pick,[.t 10,.t 13,.c (.bool false)],none⟩,
 mT 15 13 14,
 oG 16 14 .move [0] 15 true,
 ⟨(some 17),15,(.call false 66),[.t 16,.c (.fn 67 [])],(some (15,true))⟩,
 oG 18 19 (.un .not) [17] 15 true,
 ⟨(some 19),20,.pick,[.t 15,.t 18,.c (.bool false)],none⟩,
 mT 2 21 19])
 (.ret)))
 [.tmp 2] 0 19
def f48.env:Env:=[(66,f66.C)]
def f48.tree (a:ByteArray):Prop:=Br (!(a.toList==ByteArray.empty.toList)) (Br (decide ((a.size:Int)≤(16:Int))) (Br (decide ((0:Int)≤(0:Int))&&decide ((0:Int) < (a.size:Int))) (Br ((bAt a (0:Int)) != (45:Int)) (∃ c8:ByteArray,(a=c8)∧(DEqs [] [])∧(fQ c8)∧((!(pA c8))=(bB a))∧True) ((false=(bB a))∧True)) False) ((false=(bB a))∧True)) ((false=(bB a))∧True)
def f48.vc (a:ByteArray):Prop:=((¬(a=ByteArray.empty)→(((a.size:Int)≤(16:Int)→((0:Int) < (a.size:Int)∧((¬(bAt a (0:Int))=(45:Int)→(fQ a∧((!(pA a))=bB a)))∧(¬(¬(bAt a (0:Int))=(45:Int))→(false=bB a)))))∧(¬((a.size:Int)≤(16:Int))→(false=bB a))))∧(¬(¬(a=ByteArray.empty))→(false=bB a)))
theorem f48.of (a:ByteArray) (h:f48.vc a):f48.tree a:=br h (Cnd.not Cnd.seq) (fun h1 k19=>br k19 Cnd.dec (fun h3 k16=>chk k16.2 Cnd.ix ⟨(by decide),k16.1⟩ (fun h5 k14=>br k14 Cnd.ne (fun h6 k12=>⟨a,⟨rfl,⟨(DEqs.refl _),⟨k12.1,⟨k12.2,trivial⟩⟩⟩⟩⟩) (fun h7 k13=>⟨k13,trivial⟩))) (fun h4 k17=>⟨k17,trivial⟩)) (fun h2 k20=>⟨k20,trivial⟩)
theorem f48.eq (a:ByteArray):(f48.af a).gives f48.env (f48.args a) (f48.blks a) (f48.res a) (f48.blks' a)=f48.tree a:=by kernel_rfl
def f58.args (a:ByteArray):List D:=[.str a]
def f58.blks (a:ByteArray):List (List D):=[]
def f58.res (a:ByteArray):List D:=[.bool (bB a)]
def f58.blks' (a:ByteArray):List (List D):=[]
def f58.C:aN:=FnC f58.args f58.blks (fun a=>a7 a) f58.res f58.blks'
def f58.kills (a:ByteArray):List Hint:=[.tell Int (fun x=>⟨.str a::.dead::.dead::.int .i64 x::dd 41 [],[],[]⟩)]
def f58.cuts (a:ByteArray):List (Nat×Σ β:Type,β→Tm):=[]
def f58.af (a:ByteArray):AF:=AF.mk (.seq (.region [⟨(some 2),0,.move,[.c (.bool false)],none⟩])
 (.seq (.seq (.region [mT 5 1 0,
 oT 6 2 (.len true) [5],
 ⟨(some 7),3,(.bin .lss),[.t 6,.c (.int .i64 (1))],none⟩,
 mT 8 4 7,
 oG 9 5 .move [0] 8 false,
 oG 10 6 (.len true) [9] 8 false,
 ⟨(some 11),7,(.bin .gtr),[.t 10,.c (.int .i64 (16))],(some (8,false))⟩,
 ⟨(some 12),8,.pick,[.t 8,.c (.bool true),.t 11],none⟩,
 mT 13 9 12,
 oG 14 10 .move [0] 13 false,
 ⟨(some 15),11,.indexStr,[.t 14,.c (.int .i64 (0))],(some (13,false))⟩,
 ⟨(some 16),12,(.bin .eql),[.t 15,.c (.int .u8 (45))],(some (13,false))⟩,
 ⟨(some 17),13,.pick,[.t 13,.c (.bool true),.t 16],none⟩])
 (.cond (.t 17) (.seq (.region [⟨(some 2),14,.move,[.c (.bool false)],none⟩])
 (.ret)) (.skip)))
 (.seq (.seq (.region [⟨(some 3),15,.move,[.c (.int .i64 (0))],none⟩])
 (.block 0 (.loopT Int (fun x=>⟨.str a::.dead::.dead::.int .i64 x::dd 41 [],[],[]⟩) 16 46 (.seq (.seq (.region [mT 18 16 3,
 mT 19 17 0,
 oT 20 18 (.len true) [19],
 oT 21 19 (.bin .lss) [18,20]])
 (.cond (.t 21) (.skip) (.exit 0)))
 (.seq (.block 1 (.seq (.region [mT 24 20 0,
 mT 25 21 3,
 oT 26 22 .indexStr [24,25],
 mT 4 23 26])
 (.seq (.region [mT 27 24 4,
 ⟨(some 28),25,(.bin .lss),[.t 27,.c (.int .u8 (97))],none⟩,
 mT 29 26 28,
 oG 30 27 .move [4] 29 false,
 ⟨(some 31),28,(.bin .gtr),[.t 30,.c (.int .u8 (122))],(some (29,false))⟩,
 ⟨(some 32),29,.pick,[.t 29,.c (.bool true),.t 31],none⟩,
 mT 33 30 32,
 oG 34 31 .move [4] 33 true,
 ⟨(some 35),32,(.bin .lss),[.t 34,.c (.int .u8 (48))],(some (33,true))⟩,
 oG 36 33 .move [35] 33 true,
 oG 37 34 .move [4] 36 false,
 ⟨(some 38),35,(.bin .gtr),[.t 37,.c (.int .u8 (57))],(some (36,false))⟩,
 ⟨(some 39),36,.pick,[.t 36,.c (.bool true),.t 38],(some (33,true))⟩,
 ⟨(some 40),37,.pick,[.t 33,.t 39,.c (.bool false)],none⟩,
 mT 41 38 40,
 oG 42 39 .move [4] 41 true,
 ⟨(some 43),40,(.bin .neq),[.t 42,.c (.int .u8 (45))],(some (41,true))⟩,
 ⟨(some 44),41,.pick,[.t 41,.t 43,.c (.bool false)],none⟩])
 (.cond (.t 44) (.seq (.region [⟨(some 2),42,.move,[.c (.bool false)],none⟩])
 (.ret)) (.skip)))))
 (.region [mT 22 43 3,
 ⟨(some 23),44,(.bin .add),[.t 22,.c (.int .i64 (1))],none⟩,
 mT 3 45 23]))))))
 (.seq (.region [⟨(some 2),46,.move,[.c (.bool true)],none⟩])
 (.ret)))))
 [.tmp 2] 0 44
def f58.env:Env:=[]
def f58.tree (a:ByteArray):Prop:=Br (decide ((a.size:Int) < (1:Int))) ((false=(bB a))∧True) (Br (decide ((16:Int) < (a.size:Int))) ((false=(bB a))∧True) (Br (decide ((0:Int)≤(0:Int))&&decide ((0:Int) < (a.size:Int))) (Br ((bAt a (0:Int))==(45:Int)) ((false=(bB a))∧True) (∃ (I12:Int→Prop) (μ13:Int→Nat),(∃ x11:Int,(a=a)∧((0:Int)=x11)∧I12 x11)∧∀ y14:Int,I12 y14→(Br (decide (y14 < (a.size:Int))) (Br (decide ((0:Int)≤y14)&&decide (y14 < (a.size:Int))) (Br (decide ((bAt a y14) < (97:Int))) (Br (decide ((bAt a y14) < (48:Int))) (Br ((bAt a y14) != (45:Int)) ((false=(bB a))∧True) (Let (wI (y14+(1:Int))) (fun v25:Int=>∃ x26:Int,(a=a)∧(v25=x26)∧I12 x26∧μ13 x26 < μ13 y14))) (Br (decide ((57:Int) < (bAt a y14))) (Br ((bAt a y14) != (45:Int)) ((false=(bB a))∧True) (Let (wI (y14+(1:Int))) (fun v38:Int=>∃ x39:Int,(a=a)∧(v38=x39)∧I12 x39∧μ13 x39 < μ13 y14))) (Let (wI (y14+(1:Int))) (fun v46:Int=>∃ x47:Int,(a=a)∧(v46=x47)∧I12 x47∧μ13 x47 < μ13 y14)))) (Br (decide ((122:Int) < (bAt a y14))) (Br (decide ((bAt a y14) < (48:Int))) (Br ((bAt a y14) != (45:Int)) ((false=(bB a))∧True) (Let (wI (y14+(1:Int))) (fun v63:Int=>∃ x64:Int,(a=a)∧(v63=x64)∧I12 x64∧μ13 x64 < μ13 y14))) (Br (decide ((57:Int) < (bAt a y14))) (Br ((bAt a y14) != (45:Int)) ((false=(bB a))∧True) (Let (wI (y14+(1:Int))) (fun v76:Int=>∃ x77:Int,(a=a)∧(v76=x77)∧I12 x77∧μ13 x77 < μ13 y14))) (Let (wI (y14+(1:Int))) (fun v84:Int=>∃ x85:Int,(a=a)∧(v84=x85)∧I12 x85∧μ13 x85 < μ13 y14)))) (Let (wI (y14+(1:Int))) (fun v94:Int=>∃ x95:Int,(a=a)∧(v94=x95)∧I12 x95∧μ13 x95 < μ13 y14)))) False) ((true=(bB a))∧True)))) False))
def f58.vc (a:ByteArray):Prop:=(((a.size:Int) < (1:Int)→(false=bB a))∧(¬((a.size:Int) < (1:Int))→(((16:Int) < (a.size:Int)→(false=bB a))∧(¬((16:Int) < (a.size:Int))→((0:Int) < (a.size:Int)∧(((bAt a (0:Int))=(45:Int)→(false=bB a))∧(¬((bAt a (0:Int))=(45:Int))→(∃ (I12:Int→Prop) (μ13:Int→Nat),I12 (0:Int)∧∀ y14:Int,I12 y14→((y14 < (a.size:Int)→((0:Int)≤y14∧y14 < (a.size:Int)∧(((bAt a y14) < (97:Int)→(((bAt a y14) < (48:Int)→((¬(bAt a y14)=(45:Int)→(false=bB a))∧(¬(¬(bAt a y14)=(45:Int))→(-9223372036854775808≤(y14+(1:Int))∧(y14+(1:Int))≤9223372036854775807∧(I12 (y14+(1:Int))∧μ13 (y14+(1:Int)) < μ13 y14)))))∧(¬((bAt a y14) < (48:Int))→(((57:Int) < (bAt a y14)→((¬(bAt a y14)=(45:Int)→(false=bB a))∧(¬(¬(bAt a y14)=(45:Int))→(-9223372036854775808≤(y14+(1:Int))∧(y14+(1:Int))≤9223372036854775807∧(I12 (y14+(1:Int))∧μ13 (y14+(1:Int)) < μ13 y14)))))∧(¬((57:Int) < (bAt a y14))→(-9223372036854775808≤(y14+(1:Int))∧(y14+(1:Int))≤9223372036854775807∧(I12 (y14+(1:Int))∧μ13 (y14+(1:Int)) < μ13 y14)))))))∧(¬((bAt a y14) < (97:Int))→(((122:Int) < (bAt a y14)→(((bAt a y14) < (48:Int)→((¬(bAt a y14)=(45:Int)→(false=bB a))∧(¬(¬(bAt a y14)=(45:Int))→(-9223372036854775808≤(y14+(1:Int))∧(y14+(1:Int))≤9223372036854775807∧(I12 (y14+(1:Int))∧μ13 (y14+(1:Int)) < μ13 y14)))))∧(¬((bAt a y14) < (48:Int))→(((57:Int) < (bAt a y14)→((¬(bAt a y14)=(45:Int)→(false=bB a))∧(¬(¬(bAt a y14)=(45:Int))→(-9223372036854775808≤(y14+(1:Int))∧(y14+(1:Int))≤9223372036854775807∧(I12 (y14+(1:Int))∧μ13 (y14+(1:Int)) < μ13 y14)))))∧(¬((57:Int) < (bAt a y14))→(-9223372036854775808≤(y14+(1:Int))∧(y14+(1:Int))≤9223372036854775807∧(I12 (y14+(1:Int))∧μ13 (y14+(1:Int)) < μ13 y14)))))))∧(¬((122:Int) < (bAt a y14))→(-9223372036854775808≤(y14+(1:Int))∧(y14+(1:Int))≤9223372036854775807∧(I12 (y14+(1:Int))∧μ13 (y14+(1:Int)) < μ13 y14))))))))∧(¬(y14 < (a.size:Int))→(true=bB a)))))))))))
theorem f58.of (a:ByteArray) (h:f58.vc a):f58.tree a:=br h Cnd.dec (fun h1 k116=>⟨k116,trivial⟩) (fun h2 k117=>br k117 Cnd.dec (fun h4 k114=>⟨k114,trivial⟩) (fun h5 k115=>chk k115.2 Cnd.ix ⟨(by decide),k115.1⟩ (fun h7 k113=>br k113 Cnd.eq (fun h8 k111=>⟨k111,trivial⟩) (fun h9 k112=>Exists.elim k112 (fun I12 h108_=>Exists.elim h108_ (fun μ13 h108=>⟨I12,μ13,⟨(0:Int),⟨rfl,⟨rfl,h108.1⟩⟩⟩,fun y14 h110=>br (h108.2 y14 h110) Cnd.dec (fun h15 k106=>chk k106.2.2 Cnd.ix ⟨k106.1,k106.2.1⟩ (fun h17 k104=>br k104 Cnd.dec (fun h18 k102=>br k102 Cnd.dec (fun h20 k54=>br k54 Cnd.ne (fun h22 k31=>⟨k31,trivial⟩) (fun h23 k32=>wrapK.i64 k32 (fun h28 h29 k30=>⟨(y14+(1:Int)),⟨rfl,⟨rfl,k30⟩⟩⟩))) (fun h21 k55=>br k55 Cnd.dec (fun h33 k52=>br k52 Cnd.ne (fun h35 k44=>⟨k44,trivial⟩) (fun h36 k45=>wrapK.i64 k45 (fun h41 h42 k43=>⟨(y14+(1:Int)),⟨rfl,⟨rfl,k43⟩⟩⟩))) (fun h34 k53=>wrapK.i64 k53 (fun h49 h50 k51=>⟨(y14+(1:Int)),⟨rfl,⟨rfl,k51⟩⟩⟩)))) (fun h19 k103=>br k103 Cnd.dec (fun h56 k100=>br k100 Cnd.dec (fun h58 k92=>br k92 Cnd.ne (fun h60 k69=>⟨k69,trivial⟩) (fun h61 k70=>wrapK.i64 k70 (fun h66 h67 k68=>⟨(y14+(1:Int)),⟨rfl,⟨rfl,k68⟩⟩⟩))) (fun h59 k93=>br k93 Cnd.dec (fun h71 k90=>br k90 Cnd.ne (fun h73 k82=>⟨k82,trivial⟩) (fun h74 k83=>wrapK.i64 k83 (fun h79 h80 k81=>⟨(y14+(1:Int)),⟨rfl,⟨rfl,k81⟩⟩⟩))) (fun h72 k91=>wrapK.i64 k91 (fun h87 h88 k89=>⟨(y14+(1:Int)),⟨rfl,⟨rfl,k89⟩⟩⟩)))) (fun h57 k101=>wrapK.i64 k101 (fun h97 h98 k99=>⟨(y14+(1:Int)),⟨rfl,⟨rfl,k99⟩⟩⟩))))) (fun h16 k107=>⟨k107,trivial⟩)⟩))))))
theorem f58.eq (a:ByteArray):(f58.af a).gives f58.env (f58.args a) (f58.blks a) (f58.res a) (f58.blks' a)=f58.tree a:=by kernel_rfl
def f50.ent (K:(List (aI))→Prop) (t:List (aI)):Prop:=∃ c:List (aI),SlQ t.length c.length (gl aG t) (gl aG c) (K c)
theorem f50.ei {K:(List (aI))→Prop} {t:List (aI)} (h:K t):f50.ent K t:=⟨t,slQ (rS aG) (h)⟩
def f50.args (a:List (aI)):List D:=[.slice .ro 2 a.length (gl aG a)]
def f50.blks (a:List (aI)):List (List D):=[]
def f50.res (a:List (aI)):List D:=[.bool (bL a)]
def f50.blks' (a:List (aI)):List (List D):=[]
def f50.C:aN:=FnC f50.args f50.blks (fun a=>d6 a) f50.res f50.blks'
def f50.S0 (a:List (aI)) (x:ByteArray×Int):Tm:=⟨.dead::.dead::.dead::.str x.1::.dead::.dead::.dead::.dead::.dead::.slice .ro 2 a.length (gl aG a)::.int .i64 (a.length:Int)::.int .i64 x.2::dd 27 [],[],[]⟩
def f50.kills (a:List (aI)):List Hint:=[.tell (ByteArray×Int) (f50.S0 a)]
def f50.cuts (a:List (aI)):List (Nat×Σ β:Type,β→Tm):=[]
def f50.af (a:List (aI)):AF:=AF.mk (.seq (.region [⟨(some 2),0,.move,[.c (.bool false)],none⟩])
 (.seq (.seq (.region [mT 6 1 0,
 oT 7 2 (.len false) [6],
 ⟨(some 8),3,(.bin .gtr),[.t 7,.c (.int .i64 (4))],none⟩])
 (.cond (.t 8) (.seq (.region [⟨(some 2),4,.move,[.c (.bool false)],none⟩])
 (.ret)) (.skip)))
 (.seq (.region [⟨(some 3),5,.move,[.c (.str ByteArray.empty)],none⟩])
 (.seq (.seq (.region [mT 9 6 0,
 oT 10 7 (.len false) [9],
 ⟨(some 11),8,.move,[.c (.int .i64 (0))],none⟩])
 (.block 0 (.loopT (ByteArray×Int) (f50.S0 a) 9 50 (.seq (.region [oT 12 9 (.bin .lss) [11,10]])
 (.seq (.cond (.t 12) (.skip) (.exit 0))
 (.seq (.block 1 (.seq (.region [mT 13 10 11,
 oT 14 11 (.indexAddr 2 none) [9,11],
 oT 15 12 (.load true 2) [14],
 oT 5 13 (.alloc [.str ByteArray.empty,.str ByteArray.empty]) [],
 mT 4 16 13,
 ⟨none,17,(.store 2),[.t 5,.t 15],none⟩])
 (.seq (.seq (.region [oT 16 18 (.fieldAddr 0) [5],
 oT 17 19 (.load false 1) [16],
 oT 18 20 (.call false 48) [17],
 oT 19 24 (.un .not) [18],
 mT 20 25 19,
 oG 21 26 (.fieldAddr 1) [5] 20 false,
 oG 22 27 (.load false 1) [21] 20 false,
 oG 23 28 (.call false 48) [22] 20 false,
 oG 24 32 (.un .not) [23] 20 false,
 ⟨(some 25),33,.pick,[.t 20,.c (.bool true),.t 24],none⟩,
 mT 26 34 25,
 oG 27 35 .move [4] 26 false,
 ⟨(some 28),36,(.bin .gtr),[.t 27,.c (.int .i64 (0))],(some (26,false))⟩,
 oG 29 37 .move [28] 26 false,
 oG 30 38 (.fieldAddr 0) [5] 29 true,
 oG 31 39 (.load false 1) [30] 29 true,
 oG 32 40 .move [3] 29 true,
 oG 33 41 (.bin .leq) [31,32] 29 true,
 ⟨(some 34),42,.pick,[.t 29,.t 33,.c (.bool false)],(some (26,false))⟩,
 ⟨(some 35),43,.pick,[.t 26,.c (.bool true),.t 34],none⟩])
 (.cond (.t 35) (.seq (.region [⟨(some 2),44,.move,[.c (.bool false)],none⟩])
 (.ret)) (.skip)))
 (.region [oT 36 45 (.fieldAddr 0) [5],
 oT 37 46 (.load false 1) [36],
 mT 3 47 37]))))
 (.region [⟨(some 38),48,(.bin .add),[.t 11,.c (.int .i64 (1))],none⟩,
 mT 11 49 38])))))))
 (.seq (.region [⟨(some 2),50,.move,[.c (.bool true)],none⟩])
 (.ret))))))
 [.tmp 2] 0 38
def f50.env:Env:=[(48,f48.C)]
def f50.tree (a:List (aI)):Prop:=Br (decide ((4:Int) < (a.length:Int))) ((false=(bL a))∧True) (∃ (I5:(ByteArray×Int)→Prop) (μ6:(ByteArray×Int)→Nat),(∃ x4:ByteArray×Int,(ByteArray.empty=x4.1)∧SlS aG a (((a.length:Int)=(a.length:Int))∧((0:Int)=x4.2)∧I5 x4))∧∀ y7:ByteArray×Int,I5 y7→(Br (decide (y7.2 < (a.length:Int))) (Br (decide ((0:Int)≤y7.2)&&decide (y7.2 < (a.length:Int))) (∃ c11:ByteArray,(((at_ a y7.2).1)=c11)∧(a7 c11)∧Br (!(bB c11)) ((false=(bL a))∧True) (∃ c15:ByteArray,(((at_ a y7.2).2)=c15)∧(a7 c15)∧Br (!(bB c15)) ((false=(bL a))∧True) (Br (decide ((0:Int) < y7.2)) (Br (Op.bytesLess ((at_ a y7.2).1).toList y7.1.toList || ((at_ a y7.2).1).toList==y7.1.toList) ((false=(bL a))∧True) (Let (wI (y7.2+(1:Int))) (fun v24:Int=>∃ x25:ByteArray×Int,(((at_ a y7.2).1)=x25.1)∧SlS aG a (((a.length:Int)=(a.length:Int))∧(v24=x25.2)∧I5 x25∧μ6 x25 < μ6 y7)))) (Let (wI (y7.2+(1:Int))) (fun v32:Int=>∃ x33:ByteArray×Int,(((at_ a y7.2).1)=x33.1)∧SlS aG a (((a.length:Int)=(a.length:Int))∧(v32=x33.2)∧I5 x33∧μ6 x33 < μ6 y7)))))) False) ((true=(bL a))∧True)))
def f50.vc (a:List (aI)):Prop:=(((4:Int) < (a.length:Int)→(false=bL a))∧(¬((4:Int) < (a.length:Int))→(∃ (I5:(ByteArray×Int)→Prop) (μ6:(ByteArray×Int)→Nat),I5 (ByteArray.empty,(0:Int))∧∀ y7:ByteArray×Int,I5 y7→((y7.2 < (a.length:Int)→((0:Int)≤y7.2∧y7.2 < (a.length:Int)∧(a7 ((at_ a y7.2).1)∧((¬((bB ((at_ a y7.2).1))=true)→(false=bL a))∧(¬(¬((bB ((at_ a y7.2).1))=true))→(a7 ((at_ a y7.2).2)∧((¬((bB ((at_ a y7.2).2))=true)→(false=bL a))∧(¬(¬((bB ((at_ a y7.2).2))=true))→(((0:Int) < y7.2→((sLe ((at_ a y7.2).1) y7.1→(false=bL a))∧(¬(sLe ((at_ a y7.2).1) y7.1)→(-9223372036854775808≤(y7.2+(1:Int))∧(y7.2+(1:Int))≤9223372036854775807∧(I5 ((at_ a y7.2).1,(y7.2+(1:Int)))∧μ6 ((at_ a y7.2).1,(y7.2+(1:Int))) < μ6 y7)))))∧(¬((0:Int) < y7.2)→(-9223372036854775808≤(y7.2+(1:Int))∧(y7.2+(1:Int))≤9223372036854775807∧(I5 ((at_ a y7.2).1,(y7.2+(1:Int)))∧μ6 ((at_ a y7.2).1,(y7.2+(1:Int))) < μ6 y7))))))))))))∧(¬(y7.2 < (a.length:Int))→(true=bL a))))))
theorem f50.of (a:List (aI)) (h:f50.vc a):f50.tree a:=br h Cnd.dec (fun h1 k53=>⟨k53,trivial⟩) (fun h2 k54=>Exists.elim k54 (fun I5 h50_=>Exists.elim h50_ (fun μ6 h50=>⟨I5,μ6,⟨(ByteArray.empty,(0:Int)),⟨rfl,SlS.mk  (⟨rfl,⟨rfl,h50.1⟩⟩)⟩⟩,fun y7 h52=>br (h50.2 y7 h52) Cnd.dec (fun h8 k48=>chk k48.2.2 Cnd.ix ⟨k48.1,k48.2.1⟩ (fun h10 k46=>⟨(at_ a y7.2).1,⟨rfl,⟨k46.1,br k46.2 (Cnd.not Cnd.b) (fun h12 k43=>⟨k43,trivial⟩) (fun h13 k44=>⟨(at_ a y7.2).2,⟨rfl,⟨k44.1,br k44.2 (Cnd.not Cnd.b) (fun h16 k40=>⟨k40,trivial⟩) (fun h17 k41=>br k41 Cnd.dec (fun h19 k38=>br k38 Cnd.sle (fun h21 k30=>⟨k30,trivial⟩) (fun h22 k31=>wrapK.i64 k31 (fun h27 h28 k29=>⟨((at_ a y7.2).1,(y7.2+(1:Int))),⟨rfl,SlS.mk  (⟨rfl,⟨rfl,k29⟩⟩)⟩⟩))) (fun h20 k39=>wrapK.i64 k39 (fun h35 h36 k37=>⟨((at_ a y7.2).1,(y7.2+(1:Int))),⟨rfl,SlS.mk  (⟨rfl,⟨rfl,k37⟩⟩)⟩⟩)))⟩⟩⟩)⟩⟩⟩)) (fun h9 k49=>⟨k49,trivial⟩)⟩)))
theorem f50.eq (a:List (aI)):(f50.af a).gives f50.env (f50.args a) (f50.blks a) (f50.res a) (f50.blks' a)=f50.tree a:=by kernel_rfl
def f59.ent (K:(List (aI))→Prop) (t:List (aI)):Prop:=∃ c:List (aI),SlQ t.length c.length (gl aG t) (gl aG c) (K c)
theorem f59.ei {K:(List (aI))→Prop} {t:List (aI)} (h:K t):f59.ent K t:=⟨t,slQ (rS aG) (h)⟩
def f59.args (a:List (aI)):List D:=[.slice .ro 2 a.length (gl aG a)]
def f59.blks (a:List (aI)):List (List D):=[]
def f59.res (a:List (aI)):List D:=[.bool (bL a)]
def f59.blks' (a:List (aI)):List (List D):=[]
def f59.C:aN:=FnC f59.args f59.blks (fun a=>d6 a) f59.res f59.blks'
def f59.S0 (a:List (aI)) (x:Int):Tm:=⟨.slice .ro 2 a.length (gl aG a)::dd 7 (.int .i64 (a.length:Int)::.int .i64 x::dd 37 []),[],[]⟩
def f59.kills (a:List (aI)):List Hint:=[.tell Int (f59.S0 a)]
def f59.cuts (a:List (aI)):List (Nat×Σ β:Type,β→Tm):=[]
def f59.af (a:List (aI)):AF:=AF.mk (.seq (.region [⟨(some 2),0,.move,[.c (.bool false)],none⟩])
 (.seq (.seq (.region [mT 4 1 0,
 oT 5 2 (.len false) [4],
 ⟨(some 6),3,(.bin .gtr),[.t 5,.c (.int .i64 (4))],none⟩])
 (.cond (.t 6) (.seq (.region [⟨(some 2),4,.move,[.c (.bool false)],none⟩])
 (.ret)) (.skip)))
 (.seq (.seq (.region [mT 7 5 0,
 oT 8 6 (.len false) [7],
 ⟨(some 9),7,.move,[.c (.int .i64 (0))],none⟩])
 (.block 0 (.loopT Int (f59.S0 a) 8 54 (.seq (.region [oT 10 8 (.bin .lss) [9,8]])
 (.seq (.cond (.t 10) (.skip) (.exit 0))
 (.seq (.block 1 (.seq (.region [mT 11 9 9,
 mT 3 10 11])
 (.seq (.region [mT 12 11 0,
 mT 13 12 3,
 oT 14 13 (.indexAddr 2 none) [12,13],
 oT 15 14 (.fieldAddr 0) [14],
 oT 16 15 (.load false 1) [15],
 oT 17 16 (.call false 58) [16],
 oT 18 20 (.un .not) [17],
 mT 19 21 18,
 oG 20 22 .move [0] 19 false,
 oG 21 23 .move [3] 19 false,
 oG 22 24 (.indexAddr 2 none) [20,21] 19 false,
 oG 23 25 (.fieldAddr 1) [22] 19 false,
 oG 24 26 (.load false 1) [23] 19 false,
 oG 25 27 (.call false 58) [24] 19 false,
 oG 26 31 (.un .not) [25] 19 false,
 ⟨(some 27),32,.pick,[.t 19,.c (.bool true),.t 26],none⟩,
 mT 28 33 27,
 oG 29 34 .move [3] 28 false,
 ⟨(some 30),35,(.bin .gtr),[.t 29,.c (.int .i64 (0))],(some (28,false))⟩,
 oG 31 36 .move [30] 28 false,
 oG 32 37 .move [0] 31 true,
 oG 33 38 .move [3] 31 true,
 ⟨(some 34),39,(.bin .sub),[.t 33,.c (.int .i64 (1))],(some (31,true))⟩,
 oG 35 40 (.indexAddr 2 none) [32,34] 31 true,
 oG 36 41 (.fieldAddr 0) [35] 31 true,
 oG 37 42 (.load false 1) [36] 31 true,
 oG 38 43 .move [0] 31 true,
 oG 39 44 .move [3] 31 true,
 oG 40 45 (.indexAddr 2 none) [38,39] 31 true,
 oG 41 46 (.fieldAddr 0) [40] 31 true,
 oG 42 47 (.load false 1) [41] 31 true,
 oG 43 48 (.bin .geq) [37,42] 31 true,
 ⟨(some 44),49,.pick,[.t 31,.t 43,.c (.bool false)],(some (28,false))⟩,
 ⟨(some 45),50,.pick,[.t 28,.c (.bool true),.t 44],none⟩])
 (.cond (.t 45) (.seq (.region [⟨(some 2),51,.move,[.c (.bool false)],none⟩])
 (.ret)) (.skip)))))
 (.region [⟨(some 46),52,(.bin .add),[.t 9,.c (.int .i64 (1))],none⟩,
 mT 9 53 46])))))))
 (.seq (.region [⟨(some 2),54,.move,[.c (.bool true)],none⟩])
 (.ret)))))
 [.tmp 2] 0 46
def f59.env:Env:=[(58,f58.C)]
def f59.tree (a:List (aI)):Prop:=Br (decide ((4:Int) < (a.length:Int))) ((false=(bL a))∧True) (∃ (I5:Int→Prop) (μ6:Int→Nat),(∃ x4:Int,SlS aG a (((a.length:Int)=(a.length:Int))∧((0:Int)=x4)∧I5 x4))∧∀ y7:Int,I5 y7→(Br (decide (y7 < (a.length:Int))) (Br (decide ((0:Int)≤y7)&&decide (y7 < (a.length:Int))) (∃ c11:ByteArray,(((at_ a y7).1)=c11)∧(a7 c11)∧Br (!(bB c11)) ((false=(bL a))∧True) (Br (decide ((0:Int)≤y7)&&decide (y7 < (a.length:Int))) (∃ c16:ByteArray,(((at_ a y7).2)=c16)∧(a7 c16)∧Br (!(bB c16)) ((false=(bL a))∧True) (Br (decide ((0:Int) < y7)) (Let (wI (y7 - (1:Int))) (fun v22:Int=>Br (decide ((0:Int)≤v22)&&decide (v22 < (a.length:Int))) (Br (decide ((0:Int)≤y7)&&decide (y7 < (a.length:Int))) (Br (!(Op.bytesLess ((at_ a v22).1).toList ((at_ a y7).1).toList)) ((false=(bL a))∧True) (Let (wI (y7+(1:Int))) (fun v28:Int=>∃ x29:Int,SlS aG a (((a.length:Int)=(a.length:Int))∧(v28=x29)∧I5 x29∧μ6 x29 < μ6 y7)))) False) False)) (Let (wI (y7+(1:Int))) (fun v41:Int=>∃ x42:Int,SlS aG a (((a.length:Int)=(a.length:Int))∧(v41=x42)∧I5 x42∧μ6 x42 < μ6 y7))))) False)) False) ((true=(bL a))∧True)))
def f59.vc (a:List (aI)):Prop:=(((4:Int) < (a.length:Int)→(false=bL a))∧(¬((4:Int) < (a.length:Int))→(∃ (I5:Int→Prop) (μ6:Int→Nat),I5 (0:Int)∧∀ y7:Int,I5 y7→((y7 < (a.length:Int)→((0:Int)≤y7∧y7 < (a.length:Int)∧(a7 ((at_ a y7).1)∧((¬((bB ((at_ a y7).1))=true)→(false=bL a))∧(¬(¬((bB ((at_ a y7).1))=true))→((0:Int)≤y7∧y7 < (a.length:Int)∧(a7 ((at_ a y7).2)∧((¬((bB ((at_ a y7).2))=true)→(false=bL a))∧(¬(¬((bB ((at_ a y7).2))=true))→(((0:Int) < y7→(-9223372036854775808≤(y7 - (1:Int))∧(y7 - (1:Int))≤9223372036854775807∧((0:Int)≤(y7 - (1:Int))∧(y7 - (1:Int)) < (a.length:Int)∧((0:Int)≤y7∧y7 < (a.length:Int)∧((¬sLt ((at_ a (y7 - (1:Int))).1) ((at_ a y7).1)→(false=bL a))∧(¬(¬sLt ((at_ a (y7 - (1:Int))).1) ((at_ a y7).1))→(-9223372036854775808≤(y7+(1:Int))∧(y7+(1:Int))≤9223372036854775807∧(I5 (y7+(1:Int))∧μ6 (y7+(1:Int)) < μ6 y7))))))))∧(¬((0:Int) < y7)→(-9223372036854775808≤(y7+(1:Int))∧(y7+(1:Int))≤9223372036854775807∧(I5 (y7+(1:Int))∧μ6 (y7+(1:Int)) < μ6 y7)))))))))))))∧(¬(y7 < (a.length:Int))→(true=bL a))))))
theorem f59.of (a:List (aI)) (h:f59.vc a):f59.tree a:=br h Cnd.dec (fun h1 k63=>⟨k63,trivial⟩) (fun h2 k64=>Exists.elim k64 (fun I5 h60_=>Exists.elim h60_ (fun μ6 h60=>⟨I5,μ6,⟨(0:Int),SlS.mk  (⟨rfl,⟨rfl,h60.1⟩⟩)⟩,fun y7 h62=>br (h60.2 y7 h62) Cnd.dec (fun h8 k58=>chk k58.2.2 Cnd.ix ⟨k58.1,k58.2.1⟩ (fun h10 k56=>⟨(at_ a y7).1,⟨rfl,⟨k56.1,br k56.2 (Cnd.not Cnd.b) (fun h12 k53=>⟨k53,trivial⟩) (fun h13 k54=>chk k54.2.2 Cnd.ix ⟨k54.1,k54.2.1⟩ (fun h15 k52=>⟨(at_ a y7).2,⟨rfl,⟨k52.1,br k52.2 (Cnd.not Cnd.b) (fun h17 k49=>⟨k49,trivial⟩) (fun h18 k50=>br k50 Cnd.dec (fun h20 k47=>wrapK.i64 k47 (fun h38 h39 k40=>chk k40.2.2 Cnd.ix ⟨k40.1,k40.2.1⟩ (fun h23 k37=>chk k37.2.2 Cnd.ix ⟨k37.1,k37.2.1⟩ (fun h24 k36=>br k36 (Cnd.not Cnd.sl_) (fun h25 k34=>⟨k34,trivial⟩) (fun h26 k35=>wrapK.i64 k35 (fun h31 h32 k33=>⟨(y7+(1:Int)),SlS.mk  (⟨rfl,⟨rfl,k33⟩⟩)⟩)))))) (fun h21 k48=>wrapK.i64 k48 (fun h44 h45 k46=>⟨(y7+(1:Int)),SlS.mk  (⟨rfl,⟨rfl,k46⟩⟩)⟩)))⟩⟩⟩))⟩⟩⟩)) (fun h9 k59=>⟨k59,trivial⟩)⟩)))
theorem f59.eq (a:List (aI)):(f59.af a).gives f59.env (f59.args a) (f59.blks a) (f59.res a) (f59.blks' a)=f59.tree a:=by kernel_rfl
def f49.args (a:aC):List D:=[.agg [.int .i64 a.1,.int .i64 a.2.1,.int .i64 a.2.2]]
def f49.blks (a:aC):List (List D):=[]
def f49.res (a:aC):List D:=[.bool (aR a)]
def f49.blks' (a:aC):List (List D):=[]
def f49.C:aN:=FnC f49.args f49.blks (fun _=>True) f49.res f49.blks'
def f49.kills (a:aC):List Hint:=[.unroll 4 [0,1,2,3,4,7,8,9,10,11,14,15] [] []]
def f49.cuts (a:aC):List (Nat×Σ β:Type,β→Tm):=[]
def f49.af (a:aC):AF:=AF.mk (.seq (.region [oT 1 0 .box [0],
 ⟨(some 2),1,.move,[.c (.bool false)],none⟩])
 (.seq (.seq (.region [oT 5 2 (.load true 3) [1],
 ⟨(some 6),3,.move,[.c (.int .i64 (0))],none⟩])
 (.block 0 (.loop 4 [0,1,2,3,4,7,8,9,10,11,14,15] [] [] 4 16 (.seq (.region [⟨(some 7),4,(.bin .lss),[.t 6,.c (.int .i64 (3))],none⟩])
 (.seq (.cond (.t 7) (.skip) (.exit 0))
 (.seq (.block 1 (.seq (.region [oT 8 5 (.indexArr false 1 3) [5,6],
 mT 4 6 8])
 (.seq (.region [mT 9 7 4,
 ⟨(some 10),8,(.bin .lss),[.t 9,.c (.int .i64 (0))],none⟩,
 mT 11 9 10,
 oG 12 10 .move [4] 11 false,
 ⟨(some 13),11,(.bin .gtr),[.t 12,.c (.int .i64 (1048576))],(some (11,false))⟩,
 ⟨(some 14),12,.pick,[.t 11,.c (.bool true),.t 13],none⟩])
 (.cond (.t 14) (.seq (.region [⟨(some 2),13,.move,[.c (.bool false)],none⟩])
 (.ret)) (.skip)))))
 (.region [⟨(some 15),14,(.bin .add),[.t 6,.c (.int .i64 (1))],none⟩,
 mT 6 15 15])))))))
 (.seq (.region [⟨(some 2),16,.move,[.c (.bool true)],none⟩])
 (.ret))))
 [.tmp 2] 0 15
def f49.env:Env:=[]
def f49.tree (a:aC):Prop:=Br (decide (a.1 < (0:Int))) ((false=(aR a))∧True) (Br (decide ((1048576:Int) < a.1)) ((false=(aR a))∧True) (Br (decide (a.2.1 < (0:Int))) ((false=(aR a))∧True) (Br (decide ((1048576:Int) < a.2.1)) ((false=(aR a))∧True) (Br (decide (a.2.2 < (0:Int))) ((false=(aR a))∧True) (Br (decide ((1048576:Int) < a.2.2)) ((false=(aR a))∧True) ((true=(aR a))∧True))))))
def f49.vc (a:aC):Prop:=((a.1 < (0:Int)→(false=aR a))∧(¬(a.1 < (0:Int))→(((1048576:Int) < a.1→(false=aR a))∧(¬((1048576:Int) < a.1)→((a.2.1 < (0:Int)→(false=aR a))∧(¬(a.2.1 < (0:Int))→(((1048576:Int) < a.2.1→(false=aR a))∧(¬((1048576:Int) < a.2.1)→((a.2.2 < (0:Int)→(false=aR a))∧(¬(a.2.2 < (0:Int))→(((1048576:Int) < a.2.2→(false=aR a))∧(¬((1048576:Int) < a.2.2)→(true=aR a)))))))))))))
theorem f49.of (a:aC) (h:f49.vc a):f49.tree a:=br h Cnd.dec (fun h1 k30=>⟨k30,trivial⟩) (fun h2 k31=>br k31 Cnd.dec (fun h4 k28=>⟨k28,trivial⟩) (fun h5 k29=>br k29 Cnd.dec (fun h7 k26=>⟨k26,trivial⟩) (fun h8 k27=>br k27 Cnd.dec (fun h10 k24=>⟨k24,trivial⟩) (fun h11 k25=>br k25 Cnd.dec (fun h13 k22=>⟨k22,trivial⟩) (fun h14 k23=>br k23 Cnd.dec (fun h16 k20=>⟨k20,trivial⟩) (fun h17 k21=>⟨k21,trivial⟩))))))
theorem f49.eq (a:aC):(f49.af a).gives f49.env (f49.args a) (f49.blks a) (f49.res a) (f49.blks' a)=f49.tree a:=by kernel_rfl
def f55.args (a:aC):List D:=[.agg [.int .i64 a.1,.int .i64 a.2.1,.int .i64 a.2.2]]
def f55.blks (a:aC):List (List D):=[]
def f55.res (a:aC):List D:=[.bool (aR a)]
def f55.blks' (a:aC):List (List D):=[]
def f55.C:aN:=FnC f55.args f55.blks (fun _=>True) f55.res f55.blks'
def f55.kills (a:aC):List Hint:=[.unroll 4 [0,2,4,5,6,7,8,9,10,11,12,17] [0] []]
def f55.cuts (a:aC):List (Nat×Σ β:Type,β→Tm):=[]
def f55.af (a:aC):AF:=AF.mk (.seq (.region [oT 1 0 .box [0],
 ⟨(some 2),1,.move,[.c (.bool false)],none⟩])
 (.seq (.seq (.region [⟨(some 3),2,.move,[.c (.int .i64 (0))],none⟩])
 (.block 0 (.loop 4 [0,2,4,5,6,7,8,9,10,11,12,17] [0] [] 3 19 (.seq (.seq (.region [mT 4 3 3,
 ⟨(some 5),4,(.bin .lss),[.t 4,.c (.int .i64 (3))],none⟩])
 (.cond (.t 5) (.skip) (.exit 0)))
 (.seq (.block 1 (.seq (.region [mT 8 5 3,
 oT 9 6 (.indexAddr 1 (some 3)) [1,8],
 oT 10 7 (.load false 1) [9],
 ⟨(some 11),8,(.bin .lss),[.t 10,.c (.int .i64 (0))],none⟩,
 mT 12 9 11,
 oG 13 10 .move [3] 12 false,
 oG 14 11 (.indexAddr 1 (some 3)) [1,13] 12 false,
 oG 15 12 (.load false 1) [14] 12 false,
 ⟨(some 16),13,(.bin .gtr),[.t 15,.c (.int .i64 (1048576))],(some (12,false))⟩,
 ⟨(some 17),14,.pick,[.t 12,.c (.bool true),.t 16],none⟩])
 (.cond (.t 17) (.seq (.region [⟨(some 2),15,.move,[.c (.bool false)],none⟩])
 (.ret)) (.skip))))
 (.region [mT 6 16 3,
 ⟨(some 7),17,(.bin .add),[.t 6,.c (.int .i64 (1))],none⟩,
 mT 3 18 7]))))))
 (.seq (.region [⟨(some 2),19,.move,[.c (.bool true)],none⟩])
 (.ret))))
 [.tmp 2] 0 17
def f55.env:Env:=[]
def f55.tree (a:aC):Prop:=Br (decide (a.1 < (0:Int))) ((false=(aR a))∧True) (Br (decide ((1048576:Int) < a.1)) ((false=(aR a))∧True) (Br (decide (a.2.1 < (0:Int))) ((false=(aR a))∧True) (Br (decide ((1048576:Int) < a.2.1)) ((false=(aR a))∧True) (Br (decide (a.2.2 < (0:Int))) ((false=(aR a))∧True) (Br (decide ((1048576:Int) < a.2.2)) ((false=(aR a))∧True) ((true=(aR a))∧True))))))
def f55.vc (a:aC):Prop:=((a.1 < (0:Int)→(false=aR a))∧(¬(a.1 < (0:Int))→(((1048576:Int) < a.1→(false=aR a))∧(¬((1048576:Int) < a.1)→((a.2.1 < (0:Int)→(false=aR a))∧(¬(a.2.1 < (0:Int))→(((1048576:Int) < a.2.1→(false=aR a))∧(¬((1048576:Int) < a.2.1)→((a.2.2 < (0:Int)→(false=aR a))∧(¬(a.2.2 < (0:Int))→(((1048576:Int) < a.2.2→(false=aR a))∧(¬((1048576:Int) < a.2.2)→(true=aR a)))))))))))))
theorem f55.of (a:aC) (h:f55.vc a):f55.tree a:=br h Cnd.dec (fun h1 k30=>⟨k30,trivial⟩) (fun h2 k31=>br k31 Cnd.dec (fun h4 k28=>⟨k28,trivial⟩) (fun h5 k29=>br k29 Cnd.dec (fun h7 k26=>⟨k26,trivial⟩) (fun h8 k27=>br k27 Cnd.dec (fun h10 k24=>⟨k24,trivial⟩) (fun h11 k25=>br k25 Cnd.dec (fun h13 k22=>⟨k22,trivial⟩) (fun h14 k23=>br k23 Cnd.dec (fun h16 k20=>⟨k20,trivial⟩) (fun h17 k21=>⟨k21,trivial⟩))))))
theorem f55.eq (a:aC):(f55.af a).gives f55.env (f55.args a) (f55.blks a) (f55.res a) (f55.blks' a)=f55.tree a:=by kernel_rfl
def f35.ent (K:bA→Prop) (t:bA):Prop:=∃ c:bA,(t.1=c.1)∧(t.2.1.1=c.2.1.1)∧(t.2.1.2.1=c.2.1.2.1)∧(t.2.1.2.2=c.2.1.2.2)∧SlQ t.2.2.length c.2.2.length (gl aG t.2.2) (gl aG c.2.2) (K c)
theorem f35.ei {K:bA→Prop} {t:bA} (h:K t):f35.ent K t:=⟨t,⟨rfl,⟨rfl,⟨rfl,⟨rfl,slQ (rS aG) (h)⟩⟩⟩⟩⟩
def f35.args (a:bA):List D:=[.agg [.str a.1,.int .i64 a.2.1.1,.int .i64 a.2.1.2.1,.int .i64 a.2.1.2.2,.slice .ro 2 a.2.2.length (gl aG a.2.2)]]
def f35.blks (a:bA):List (List D):=[]
def f35.res (a:bA):List D:=[.bool (fM a)]
def f35.blks' (a:bA):List (List D):=[]
def f35.C:aN:=FnC f35.args f35.blks (fun a=>fJ a) f35.res f35.blks'
def f35.kills (a:bA):List Hint:=[]
def f35.cuts (a:bA):List (Nat×Σ β:Type,β→Tm):=[]
def f35.af (a:bA):AF:=AF.mk (.seq (.region [oT 1 0 .box [0],
 ⟨(some 2),1,.move,[.c (.bool false)],none⟩])
 (.seq (.region [oT 3 2 (.fieldAddr 0) [1],
 oT 4 3 (.load false 1) [3],
 oT 5 4 (.call false 48) [4],
 mT 6 8 5,
 oG 7 9 (.fieldAddr 1) [1] 6 true,
 oG 8 10 (.load true 3) [7] 6 true,
 oG 9 11 (.call false 49) [8] 6 true,
 ⟨(some 10),15,.pick,[.t 6,.t 9,.c (.bool false)],none⟩,
 mT 11 16 10,
 oG 12 17 (.fieldAddr 4) [1] 11 true,
 oG 13 18 (.load false 1) [12] 11 true,
 oG 14 19 (.call false 50) [13] 11 true,
 ⟨(some 15),23,.pick,[.t 11,.t 14,.c (.bool false)],none⟩,
 mT 2 24 15])
 (.ret)))
 [.tmp 2] 0 15
def f35.env:Env:=[(48,f48.C),(49,f49.C),(50,f50.C)]
def f35.tree (a:bA):Prop:=∃ c1:ByteArray,(a.1=c1)∧(a7 c1)∧Br (bB c1) (∃ c4:aC,(a.2.1.1=c4.1)∧(a.2.1.2.1=c4.2.1)∧(a.2.1.2.2=c4.2.2)∧True∧Br (aR c4) (f50.ent (fun c7=>(d6 c7)∧((bL c7)=(fM a))∧True) a.2.2) ((false=(fM a))∧True)) ((false=(fM a))∧True)
def f35.vc (a:bA):Prop:=(a7 a.1∧(((bB (a.1))=true→(((aR (a.2.1))=true→(d6 a.2.2∧((bL (a.2.2))=fM a)))∧(¬((aR (a.2.1))=true)→(false=fM a))))∧(¬((bB (a.1))=true)→(false=fM a))))
theorem f35.of (a:bA) (h:f35.vc a):f35.tree a:=⟨a.1,⟨rfl,⟨h.1,br h.2 Cnd.b (fun h2 k15=>⟨a.2.1,⟨rfl,⟨rfl,⟨rfl,⟨trivial,br k15 Cnd.b (fun h5 k11=>(f50.ei ⟨k11.1,⟨k11.2,trivial⟩⟩)) (fun h6 k12=>⟨k12,trivial⟩)⟩⟩⟩⟩⟩) (fun h3 k16=>⟨k16,trivial⟩)⟩⟩⟩
theorem f35.eq (a:bA):(f35.af a).gives f35.env (f35.args a) (f35.blks a) (f35.res a) (f35.blks' a)=f35.tree a:=by kernel_rfl
def f36.ent (K:bA→Prop) (t:bA):Prop:=∃ c:bA,(t.1=c.1)∧(t.2.1.1=c.2.1.1)∧(t.2.1.2.1=c.2.1.2.1)∧(t.2.1.2.2=c.2.1.2.2)∧SlQ t.2.2.length c.2.2.length (gl aG t.2.2) (gl aG c.2.2) (K c)
theorem f36.ei {K:bA→Prop} {t:bA} (h:K t):f36.ent K t:=⟨t,⟨rfl,⟨rfl,⟨rfl,⟨rfl,slQ (rS aG) (h)⟩⟩⟩⟩⟩
def f36.args (a:bA):List D:=[.agg [.str a.1,.int .i64 a.2.1.1,.int .i64 a.2.1.2.1,.int .i64 a.2.1.2.2,.slice .ro 2 a.2.2.length (gl aG a.2.2)]]
def f36.blks (a:bA):List (List D):=[]
def f36.res (a:bA):List D:=[.bool (fM a)]
def f36.blks' (a:bA):List (List D):=[]
def f36.C:aN:=FnC f36.args f36.blks (fun a=>fJ a) f36.res f36.blks'
def f36.kills (a:bA):List Hint:=[]
def f36.cuts (a:bA):List (Nat×Σ β:Type,β→Tm):=[]
def f36.af (a:bA):AF:=AF.mk (.seq (.region [oT 1 0 .box [0],
 ⟨(some 2),1,.move,[.c (.bool false)],none⟩])
 (.seq (.region [oT 3 2 (.fieldAddr 0) [1],
 oT 4 3 (.load false 1) [3],
 oT 5 4 (.call false 58) [4],
 mT 6 8 5,
 oG 7 9 (.fieldAddr 1) [1] 6 true,
 oG 8 10 (.load true 3) [7] 6 true,
 oG 9 11 (.call false 55) [8] 6 true,
 ⟨(some 10),15,.pick,[.t 6,.t 9,.c (.bool false)],none⟩,
 mT 11 16 10,
 oG 12 17 (.fieldAddr 4) [1] 11 true,
 oG 13 18 (.load false 1) [12] 11 true,
 oG 14 19 (.call false 59) [13] 11 true,
 ⟨(some 15),23,.pick,[.t 11,.t 14,.c (.bool false)],none⟩,
 mT 2 24 15])
 (.ret)))
 [.tmp 2] 0 15
def f36.env:Env:=[(58,f58.C),(55,f55.C),(59,f59.C)]
def f36.tree (a:bA):Prop:=∃ c1:ByteArray,(a.1=c1)∧(a7 c1)∧Br (bB c1) (∃ c4:aC,(a.2.1.1=c4.1)∧(a.2.1.2.1=c4.2.1)∧(a.2.1.2.2=c4.2.2)∧True∧Br (aR c4) (f59.ent (fun c7=>(d6 c7)∧((bL c7)=(fM a))∧True) a.2.2) ((false=(fM a))∧True)) ((false=(fM a))∧True)
def f36.vc (a:bA):Prop:=(a7 a.1∧(((bB (a.1))=true→(((aR (a.2.1))=true→(d6 a.2.2∧((bL (a.2.2))=fM a)))∧(¬((aR (a.2.1))=true)→(false=fM a))))∧(¬((bB (a.1))=true)→(false=fM a))))
theorem f36.of (a:bA) (h:f36.vc a):f36.tree a:=⟨a.1,⟨rfl,⟨h.1,br h.2 Cnd.b (fun h2 k15=>⟨a.2.1,⟨rfl,⟨rfl,⟨rfl,⟨trivial,br k15 Cnd.b (fun h5 k11=>(f59.ei ⟨k11.1,⟨k11.2,trivial⟩⟩)) (fun h6 k12=>⟨k12,trivial⟩)⟩⟩⟩⟩⟩) (fun h3 k16=>⟨k16,trivial⟩)⟩⟩⟩
theorem f36.eq (a:bA):(f36.af a).gives f36.env (f36.args a) (f36.blks a) (f36.res a) (f36.blks' a)=f36.tree a:=by kernel_rfl
def f51.args (a:ByteArray):List D:=[.str a]
def f51.blks (a:ByteArray):List (List D):=[]
def f51.res (a:ByteArray):List D:=[.bool (dQ a)]
def f51.blks' (a:ByteArray):List (List D):=[]
def f51.C:aN:=FnC f51.args f51.blks (fun a=>a7 a) f51.res f51.blks'
def f51.kills (a:ByteArray):List Hint:=[]
def f51.cuts (a:ByteArray):List (Nat×Σ β:Type,β→Tm):=[]
def f51.af (a:ByteArray):AF:=AF.mk (.seq (.region [⟨(some 2),0,.move,[.c (.bool false)],none⟩])
 (.seq (.region [mT 3 1 0,
 ⟨(some 4),2,(.bin .eql),[.t 3,.c (.str ByteArray.empty)],none⟩,
 mT 5 3 4,
 oG 6 4 .move [0] 5 false,
 oG 7 5 (.call false 48) [6] 5 false,
 ⟨(some 8),9,.pick,[.t 5,.c (.bool true),.t 7],none⟩,
 mT 2 10 8])
 (.ret)))
 [.tmp 2] 0 8
def f51.env:Env:=[(48,f48.C)]
def f51.tree (a:ByteArray):Prop:=Br (a.toList==ByteArray.empty.toList) ((true=(dQ a))∧True) (∃ c4:ByteArray,(a=c4)∧(a7 c4)∧((bB c4)=(dQ a))∧True)
def f51.vc (a:ByteArray):Prop:=((a=ByteArray.empty→(true=dQ a))∧(¬(a=ByteArray.empty)→(a7 a∧((bB a)=dQ a))))
theorem f51.of (a:ByteArray) (h:f51.vc a):f51.tree a:=br h Cnd.seq (fun h1 k7=>⟨k7,trivial⟩) (fun h2 k8=>⟨a,⟨rfl,⟨k8.1,⟨k8.2,trivial⟩⟩⟩⟩)
theorem f51.eq (a:ByteArray):(f51.af a).gives f51.env (f51.args a) (f51.blks a) (f51.res a) (f51.blks' a)=f51.tree a:=by kernel_rfl
def f24.ent (K:aE→Prop) (t:aE):Prop:=∃ c:aE,(t.1=c.1)∧(t.2.1=c.2.1)∧(t.2.2.1=c.2.2.1)∧(t.2.2.2.1.1=c.2.2.2.1.1)∧(t.2.2.2.1.2.1=c.2.2.2.1.2.1)∧(t.2.2.2.1.2.2=c.2.2.2.1.2.2)∧SlQ t.2.2.2.2.1.length c.2.2.2.2.1.length (gl aG t.2.2.2.2.1) (gl aG c.2.2.2.2.1) ((t.2.2.2.2.2.1=c.2.2.2.2.2.1)∧(t.2.2.2.2.2.2.1=c.2.2.2.2.2.2.1)∧(t.2.2.2.2.2.2.2=c.2.2.2.2.2.2.2)∧K c)
theorem f24.ei {K:aE→Prop} {t:aE} (h:K t):f24.ent K t:=⟨t,⟨rfl,⟨rfl,⟨rfl,⟨rfl,⟨rfl,⟨rfl,slQ (rS aG) (⟨rfl,⟨rfl,⟨rfl,h⟩⟩⟩)⟩⟩⟩⟩⟩⟩⟩
def f24.args (a:aE):List D:=[.agg [.str a.1,.str a.2.1,.int .i64 a.2.2.1,.int .i64 a.2.2.2.1.1,.int .i64 a.2.2.2.1.2.1,.int .i64 a.2.2.2.1.2.2,.slice .ro 2 a.2.2.2.2.1.length (gl aG a.2.2.2.2.1),.str a.2.2.2.2.2.1,.str a.2.2.2.2.2.2.1,.int .i64 a.2.2.2.2.2.2.2]]
def f24.blks (a:aE):List (List D):=[]
def f24.res (a:aE):List D:=[.bool (bM a)]
def f24.blks' (a:aE):List (List D):=[]
def f24.C:aN:=FnC f24.args f24.blks (fun a=>gE a) f24.res f24.blks'
def f24.kills (a:aE):List Hint:=[]
def f24.cuts (a:aE):List (Nat×Σ β:Type,β→Tm):=[]
def f24.af (a:aE):AF:=AF.mk (.seq (.region [oT 1 0 .box [0],
 ⟨(some 2),1,.move,[.c (.bool false)],none⟩])
 (.seq (.block 0 (.seq (.region [oT 4 2 (.fieldAddr 0) [1],
 oT 5 3 (.load false 1) [4],
 oT 6 4 (.call false 48) [5],
 oT 7 8 (.un .not) [6],
 mT 8 9 7,
 oG 9 10 (.fieldAddr 1) [1] 8 false,
 oG 10 11 (.load false 1) [9] 8 false,
 oG 11 12 (.call false 48) [10] 8 false,
 oG 12 16 (.un .not) [11] 8 false,
 ⟨(some 13),17,.pick,[.t 8,.c (.bool true),.t 12],none⟩,
 mT 3 18 13])
 (.cond (.t 3) (.seq (.region [⟨(some 2),19,.move,[.c (.bool false)],none⟩])
 (.ret)) (.seq (.region [oT 15 20 (.fieldAddr 2) [1],
 oT 16 21 (.load false 1) [15],
 ⟨(some 17),22,(.bin .lss),[.t 16,.c (.int .i64 (0))],none⟩,
 mT 18 23 17,
 oG 19 24 (.fieldAddr 2) [1] 18 false,
 oG 20 25 (.load false 1) [19] 18 false,
 ⟨(some 21),26,(.bin .gtr),[.t 20,.c (.int .i64 (9))],(some (18,false))⟩,
 ⟨(some 22),27,.pick,[.t 18,.c (.bool true),.t 21],none⟩,
 mT 23 28 22,
 oG 24 29 (.fieldAddr 3) [1] 23 false,
 oG 25 30 (.load true 3) [24] 23 false,
 oG 26 31 (.call false 49) [25] 23 false,
 oG 27 35 (.un .not) [26] 23 false,
 ⟨(some 28),36,.pick,[.t 23,.c (.bool true),.t 27],none⟩,
 mT 14 37 28])
 (.cond (.t 14) (.seq (.region [⟨(some 2),38,.move,[.c (.bool false)],none⟩])
 (.ret)) (.seq (.region [oT 30 39 (.fieldAddr 6) [1],
 oT 31 40 (.load false 1) [30],
 oT 32 41 (.call false 50) [31],
 oT 33 45 (.un .not) [32],
 mT 34 46 33,
 oG 35 47 (.fieldAddr 7) [1] 34 false,
 oG 36 48 (.load false 1) [35] 34 false,
 oG 37 49 (.call false 51) [36] 34 false,
 oG 38 53 (.un .not) [37] 34 false,
 ⟨(some 39),54,.pick,[.t 34,.c (.bool true),.t 38],none⟩,
 mT 40 55 39,
 oG 41 56 (.fieldAddr 8) [1] 40 false,
 oG 42 57 (.load false 1) [41] 40 false,
 oG 43 58 (.call false 51) [42] 40 false,
 oG 44 62 (.un .not) [43] 40 false,
 ⟨(some 45),63,.pick,[.t 40,.c (.bool true),.t 44],none⟩,
 mT 29 64 45])
 (.cond (.t 29) (.seq (.region [⟨(some 2),65,.move,[.c (.bool false)],none⟩])
 (.ret)) (.seq (.region [oT 47 66 (.fieldAddr 8) [1],
 oT 48 67 (.load false 1) [47],
 ⟨(some 49),68,(.bin .eql),[.t 48,.c (.str ByteArray.empty)],none⟩,
 mT 46 69 49])
 (.cond (.t 46) (.seq (.region [oT 50 70 (.fieldAddr 9) [1],
 oT 51 71 (.load false 1) [50],
 ⟨(some 52),72,(.bin .eql),[.t 51,.c (.int .i64 (0))],none⟩,
 mT 2 73 52])
 (.ret)) (.skip))))))))))
 (.seq (.region [oT 53 74 (.fieldAddr 9) [1],
 oT 54 75 (.load false 1) [53],
 ⟨(some 55),76,(.bin .geq),[.t 54,.c (.int .i64 (2))],none⟩,
 mT 56 77 55,
 oG 57 78 (.fieldAddr 9) [1] 56 true,
 oG 58 79 (.load false 1) [57] 56 true,
 ⟨(some 59),80,(.bin .leq),[.t 58,.c (.int .i64 (4))],(some (56,true))⟩,
 ⟨(some 60),81,.pick,[.t 56,.t 59,.c (.bool false)],none⟩,
 mT 2 82 60])
 (.ret))))
 [.tmp 2] 0 60
def f24.env:Env:=[(48,f48.C),(49,f49.C),(50,f50.C),(51,f51.C)]
def f24.tree (a:aE):Prop:=∃ c1:ByteArray,(a.1=c1)∧(a7 c1)∧Br (!(bB c1)) ((false=(bM a))∧True) (∃ c5:ByteArray,(a.2.1=c5)∧(a7 c5)∧Br (!(bB c5)) ((false=(bM a))∧True) (Br (decide (a.2.2.1 < (0:Int))) ((false=(bM a))∧True) (Br (decide ((9:Int) < a.2.2.1)) ((false=(bM a))∧True) (∃ c15:aC,(a.2.2.2.1.1=c15.1)∧(a.2.2.2.1.2.1=c15.2.1)∧(a.2.2.2.1.2.2=c15.2.2)∧True∧Br (!(aR c15)) ((false=(bM a))∧True) (f50.ent (fun c19=>(d6 c19)∧Br (!(bL c19)) ((false=(bM a))∧True) (∃ c23:ByteArray,(a.2.2.2.2.2.1=c23)∧(a7 c23)∧Br (!(dQ c23)) ((false=(bM a))∧True) (∃ c27:ByteArray,(a.2.2.2.2.2.2.1=c27)∧(a7 c27)∧Br (!(dQ c27)) ((false=(bM a))∧True) (Br (a.2.2.2.2.2.2.1.toList==ByteArray.empty.toList) (((a.2.2.2.2.2.2.2==(0:Int))=(bM a))∧True) (Br (decide ((2:Int)≤a.2.2.2.2.2.2.2)) (((decide (a.2.2.2.2.2.2.2≤(4:Int)))=(bM a))∧True) ((false=(bM a))∧True)))))) a.2.2.2.2.1)))))
def f24.vc (a:aE):Prop:=(a7 a.1∧((¬((bB (a.1))=true)→(false=bM a))∧(¬(¬((bB (a.1))=true))→(a7 a.2.1∧((¬((bB (a.2.1))=true)→(false=bM a))∧(¬(¬((bB (a.2.1))=true))→((a.2.2.1 < (0:Int)→(false=bM a))∧(¬(a.2.2.1 < (0:Int))→(((9:Int) < a.2.2.1→(false=bM a))∧(¬((9:Int) < a.2.2.1)→((¬((aR (a.2.2.2.1))=true)→(false=bM a))∧(¬(¬((aR (a.2.2.2.1))=true))→(d6 a.2.2.2.2.1∧((¬((bL (a.2.2.2.2.1))=true)→(false=bM a))∧(¬(¬((bL (a.2.2.2.2.1))=true))→(a7 a.2.2.2.2.2.1∧((¬((dQ (a.2.2.2.2.2.1))=true)→(false=bM a))∧(¬(¬((dQ (a.2.2.2.2.2.1))=true))→(a7 a.2.2.2.2.2.2.1∧((¬((dQ (a.2.2.2.2.2.2.1))=true)→(false=bM a))∧(¬(¬((dQ (a.2.2.2.2.2.2.1))=true))→((a.2.2.2.2.2.2.1=ByteArray.empty→((a.2.2.2.2.2.2.2==(0:Int))=bM a))∧(¬(a.2.2.2.2.2.2.1=ByteArray.empty)→(((2:Int)≤a.2.2.2.2.2.2.2→(decide (a.2.2.2.2.2.2.2≤(4:Int))=bM a))∧(¬((2:Int)≤a.2.2.2.2.2.2.2)→(false=bM a))))))))))))))))))))))))))
theorem f24.of (a:aE) (h:f24.vc a):f24.tree a:=⟨a.1,⟨rfl,⟨h.1,br h.2 (Cnd.not Cnd.b) (fun h2 k61=>⟨k61,trivial⟩) (fun h3 k62=>⟨a.2.1,⟨rfl,⟨k62.1,br k62.2 (Cnd.not Cnd.b) (fun h6 k58=>⟨k58,trivial⟩) (fun h7 k59=>br k59 Cnd.dec (fun h9 k56=>⟨k56,trivial⟩) (fun h10 k57=>br k57 Cnd.dec (fun h12 k54=>⟨k54,trivial⟩) (fun h13 k55=>⟨a.2.2.2.1,⟨rfl,⟨rfl,⟨rfl,⟨trivial,br k55 (Cnd.not Cnd.b) (fun h16 k51=>⟨k51,trivial⟩) (fun h17 k52=>(f50.ei ⟨k52.1,br k52.2 (Cnd.not Cnd.b) (fun h20 k48=>⟨k48,trivial⟩) (fun h21 k49=>⟨a.2.2.2.2.2.1,⟨rfl,⟨k49.1,br k49.2 (Cnd.not Cnd.b) (fun h24 k45=>⟨k45,trivial⟩) (fun h25 k46=>⟨a.2.2.2.2.2.2.1,⟨rfl,⟨k46.1,br k46.2 (Cnd.not Cnd.b) (fun h28 k42=>⟨k42,trivial⟩) (fun h29 k43=>br k43 Cnd.seq (fun h31 k40=>⟨k40,trivial⟩) (fun h32 k41=>br k41 Cnd.dec (fun h34 k38=>⟨k38,trivial⟩) (fun h35 k39=>⟨k39,trivial⟩)))⟩⟩⟩)⟩⟩⟩)⟩))⟩⟩⟩⟩⟩)))⟩⟩⟩)⟩⟩⟩
theorem f24.eq (a:aE):(f24.af a).gives f24.env (f24.args a) (f24.blks a) (f24.res a) (f24.blks' a)=f24.tree a:=by kernel_rfl
def f38.ent (K:aE→Prop) (t:aE):Prop:=∃ c:aE,(t.1=c.1)∧(t.2.1=c.2.1)∧(t.2.2.1=c.2.2.1)∧(t.2.2.2.1.1=c.2.2.2.1.1)∧(t.2.2.2.1.2.1=c.2.2.2.1.2.1)∧(t.2.2.2.1.2.2=c.2.2.2.1.2.2)∧SlQ t.2.2.2.2.1.length c.2.2.2.2.1.length (gl aG t.2.2.2.2.1) (gl aG c.2.2.2.2.1) ((t.2.2.2.2.2.1=c.2.2.2.2.2.1)∧(t.2.2.2.2.2.2.1=c.2.2.2.2.2.2.1)∧(t.2.2.2.2.2.2.2=c.2.2.2.2.2.2.2)∧K c)
theorem f38.ei {K:aE→Prop} {t:aE} (h:K t):f38.ent K t:=⟨t,⟨rfl,⟨rfl,⟨rfl,⟨rfl,⟨rfl,⟨rfl,slQ (rS aG) (⟨rfl,⟨rfl,⟨rfl,h⟩⟩⟩)⟩⟩⟩⟩⟩⟩⟩
def f38.args (a:aE):List D:=[.agg [.str a.1,.str a.2.1,.int .i64 a.2.2.1,.int .i64 a.2.2.2.1.1,.int .i64 a.2.2.2.1.2.1,.int .i64 a.2.2.2.1.2.2,.slice .ro 2 a.2.2.2.2.1.length (gl aG a.2.2.2.2.1),.str a.2.2.2.2.2.1,.str a.2.2.2.2.2.2.1,.int .i64 a.2.2.2.2.2.2.2]]
def f38.blks (a:aE):List (List D):=[]
def f38.res (a:aE):List D:=[.bool (bM a)]
def f38.blks' (a:aE):List (List D):=[]
def f38.C:aN:=FnC f38.args f38.blks (fun a=>gE a) f38.res f38.blks'
def f38.kills (a:aE):List Hint:=[]
def f38.cuts (a:aE):List (Nat×Σ β:Type,β→Tm):=[]
def f38.af (a:aE):AF:=AF.mk (.seq (.region [oT 1 0 .box [0],
 ⟨(some 2),1,.move,[.c (.bool false)],none⟩])
 (.seq (.seq (.region [oT 3 2 (.fieldAddr 0) [1],
 oT 4 3 (.load false 1) [3],
 oT 5 4 (.call false 58) [4],
 oT 6 8 (.un .not) [5],
 mT 7 9 6,
 oG 8 10 (.fieldAddr 1) [1] 7 false,
 oG 9 11 (.load false 1) [8] 7 false,
 oG 10 12 (.call false 58) [9] 7 false,
 oG 11 16 (.un .not) [10] 7 false,
 ⟨(some 12),17,.pick,[.t 7,.c (.bool true),.t 11],none⟩,
 mT 13 18 12,
 oG 14 19 (.fieldAddr 2) [1] 13 false,
 oG 15 20 (.load false 1) [14] 13 false,
 ⟨(some 16),21,(.bin .lss),[.t 15,.c (.int .i64 (0))],(some (13,false))⟩,
 ⟨(some 17),22,.pick,[.t 13,.c (.bool true),.t 16],none⟩,
 mT 18 23 17,
 oG 19 24 (.fieldAddr 2) [1] 18 false,
 oG 20 25 (.load false 1) [19] 18 false,
 ⟨(some 21),26,(.bin .gtr),[.t 20,.c (.int .i64 (9))],(some (18,false))⟩,
 ⟨(some 22),27,.pick,[.t 18,.c (.bool true),.t 21],none⟩,
 mT 23 28 22,
 oG 24 29 (.fieldAddr 3) [1] 23 false,
 oG 25 30 (.load true 3) [24] 23 false,
 oG 26 31 (.call false 55) [25] 23 false,
 oG 27 35 (.un .not) [26] 23 false,
 ⟨(some 28),36,.pick,[.t 23,.c (.bool true),.t 27],none⟩,
 mT 29 37 28,
 oG 30 38 (.fieldAddr 6) [1] 29 false,
 oG 31 39 (.load false 1) [30] 29 false,
 oG 32 40 (.call false 59) [31] 29 false,
 oG 33 44 (.un .not) [32] 29 false,
 ⟨(some 34),45,.pick,[.t 29,.c (.bool true),.t 33],none⟩])
 (.cond (.t 34) (.seq (.region [⟨(some 2),46,.move,[.c (.bool false)],none⟩])
 (.ret)) (.skip)))
 (.seq (.seq (.region [oT 35 47 (.fieldAddr 7) [1],
 oT 36 48 (.load false 1) [35],
 ⟨(some 37),49,(.bin .neq),[.t 36,.c (.str ByteArray.empty)],none⟩,
 mT 38 50 37,
 oG 39 51 (.fieldAddr 7) [1] 38 true,
 oG 40 52 (.load false 1) [39] 38 true,
 oG 41 53 (.call false 58) [40] 38 true,
 oG 42 57 (.un .not) [41] 38 true,
 ⟨(some 43),58,.pick,[.t 38,.t 42,.c (.bool false)],none⟩])
 (.cond (.t 43) (.seq (.region [⟨(some 2),59,.move,[.c (.bool false)],none⟩])
 (.ret)) (.skip)))
 (.seq (.seq (.region [oT 44 60 (.fieldAddr 8) [1],
 oT 45 61 (.load false 1) [44],
 ⟨(some 46),62,(.bin .eql),[.t 45,.c (.str ByteArray.empty)],none⟩])
 (.cond (.t 46) (.seq (.region [oT 47 63 (.fieldAddr 9) [1],
 oT 48 64 (.load false 1) [47],
 ⟨(some 49),65,(.bin .eql),[.t 48,.c (.int .i64 (0))],none⟩,
 mT 2 66 49])
 (.ret)) (.skip)))
 (.seq (.region [oT 50 67 (.fieldAddr 8) [1],
 oT 51 68 (.load false 1) [50],
 oT 52 69 (.call false 58) [51],
 mT 53 73 52,
 oG 54 74 (.fieldAddr 9) [1] 53 true,
 oG 55 75 (.load false 1) [54] 53 true,
 ⟨(some 56),76,(.bin .geq),[.t 55,.c (.int .i64 (2))],(some (53,true))⟩,
 ⟨(some 57),77,.pick,[.t 53,.t 56,.c (.bool false)],none⟩,
 mT 58 78 57,
 oG 59 79 (.fieldAddr 9) [1] 58 true,
 oG 60 80 (.load false 1) [59] 58 true,
 ⟨(some 61),81,(.bin .leq),[.t 60,.c (.int .i64 (4))],(some (58,true))⟩,
 ⟨(some 62),82,.pick,[.t 58,.t 61,.c (.bool false)],none⟩,
 mT 2 83 62])
 (.ret))))))
 [.tmp 2] 0 62
def f38.env:Env:=[(58,f58.C),(55,f55.C),(59,f59.C)]
def f38.tree (a:aE):Prop:=∃ c1:ByteArray,(a.1=c1)∧(a7 c1)∧Br (!(bB c1)) ((false=(bM a))∧True) (∃ c5:ByteArray,(a.2.1=c5)∧(a7 c5)∧Br (!(bB c5)) ((false=(bM a))∧True) (Br (decide (a.2.2.1 < (0:Int))) ((false=(bM a))∧True) (Br (decide ((9:Int) < a.2.2.1)) ((false=(bM a))∧True) (∃ c15:aC,(a.2.2.2.1.1=c15.1)∧(a.2.2.2.1.2.1=c15.2.1)∧(a.2.2.2.1.2.2=c15.2.2)∧True∧Br (!(aR c15)) ((false=(bM a))∧True) (f59.ent (fun c19=>(d6 c19)∧Br (!(bL c19)) ((false=(bM a))∧True) (Br (!(a.2.2.2.2.2.1.toList==ByteArray.empty.toList)) (∃ c25:ByteArray,(a.2.2.2.2.2.1=c25)∧(a7 c25)∧Br (!(bB c25)) ((false=(bM a))∧True) (Br (a.2.2.2.2.2.2.1.toList==ByteArray.empty.toList) (((a.2.2.2.2.2.2.2==(0:Int))=(bM a))∧True) (∃ c32:ByteArray,(a.2.2.2.2.2.2.1=c32)∧(a7 c32)∧Br (bB c32) (Br (decide ((2:Int)≤a.2.2.2.2.2.2.2)) (((decide (a.2.2.2.2.2.2.2≤(4:Int)))=(bM a))∧True) ((false=(bM a))∧True)) ((false=(bM a))∧True)))) (Br (a.2.2.2.2.2.2.1.toList==ByteArray.empty.toList) (((a.2.2.2.2.2.2.2==(0:Int))=(bM a))∧True) (∃ c53:ByteArray,(a.2.2.2.2.2.2.1=c53)∧(a7 c53)∧Br (bB c53) (Br (decide ((2:Int)≤a.2.2.2.2.2.2.2)) (((decide (a.2.2.2.2.2.2.2≤(4:Int)))=(bM a))∧True) ((false=(bM a))∧True)) ((false=(bM a))∧True))))) a.2.2.2.2.1)))))
def f38.vc (a:aE):Prop:=(a7 a.1∧((¬((bB (a.1))=true)→(false=bM a))∧(¬(¬((bB (a.1))=true))→(a7 a.2.1∧((¬((bB (a.2.1))=true)→(false=bM a))∧(¬(¬((bB (a.2.1))=true))→((a.2.2.1 < (0:Int)→(false=bM a))∧(¬(a.2.2.1 < (0:Int))→(((9:Int) < a.2.2.1→(false=bM a))∧(¬((9:Int) < a.2.2.1)→((¬((aR (a.2.2.2.1))=true)→(false=bM a))∧(¬(¬((aR (a.2.2.2.1))=true))→(d6 a.2.2.2.2.1∧((¬((bL (a.2.2.2.2.1))=true)→(false=bM a))∧(¬(¬((bL (a.2.2.2.2.1))=true))→((¬(a.2.2.2.2.2.1=ByteArray.empty)→(a7 a.2.2.2.2.2.1∧((¬((bB (a.2.2.2.2.2.1))=true)→(false=bM a))∧(¬(¬((bB (a.2.2.2.2.2.1))=true))→((a.2.2.2.2.2.2.1=ByteArray.empty→((a.2.2.2.2.2.2.2==(0:Int))=bM a))∧(¬(a.2.2.2.2.2.2.1=ByteArray.empty)→(a7 a.2.2.2.2.2.2.1∧(((bB (a.2.2.2.2.2.2.1))=true→(((2:Int)≤a.2.2.2.2.2.2.2→(decide (a.2.2.2.2.2.2.2≤(4:Int))=bM a))∧(¬((2:Int)≤a.2.2.2.2.2.2.2)→(false=bM a))))∧(¬((bB (a.2.2.2.2.2.2.1))=true)→(false=bM a))))))))))∧(¬(¬(a.2.2.2.2.2.1=ByteArray.empty))→((a.2.2.2.2.2.2.1=ByteArray.empty→((a.2.2.2.2.2.2.2==(0:Int))=bM a))∧(¬(a.2.2.2.2.2.2.1=ByteArray.empty)→(a7 a.2.2.2.2.2.2.1∧(((bB (a.2.2.2.2.2.2.1))=true→(((2:Int)≤a.2.2.2.2.2.2.2→(decide (a.2.2.2.2.2.2.2≤(4:Int))=bM a))∧(¬((2:Int)≤a.2.2.2.2.2.2.2)→(false=bM a))))∧(¬((bB (a.2.2.2.2.2.2.1))=true)→(false=bM a)))))))))))))))))))))))
theorem f38.of (a:aE) (h:f38.vc a):f38.tree a:=⟨a.1,⟨rfl,⟨h.1,br h.2 (Cnd.not Cnd.b) (fun h2 k83=>⟨k83,trivial⟩) (fun h3 k84=>⟨a.2.1,⟨rfl,⟨k84.1,br k84.2 (Cnd.not Cnd.b) (fun h6 k80=>⟨k80,trivial⟩) (fun h7 k81=>br k81 Cnd.dec (fun h9 k78=>⟨k78,trivial⟩) (fun h10 k79=>br k79 Cnd.dec (fun h12 k76=>⟨k76,trivial⟩) (fun h13 k77=>⟨a.2.2.2.1,⟨rfl,⟨rfl,⟨rfl,⟨trivial,br k77 (Cnd.not Cnd.b) (fun h16 k73=>⟨k73,trivial⟩) (fun h17 k74=>(f59.ei ⟨k74.1,br k74.2 (Cnd.not Cnd.b) (fun h20 k70=>⟨k70,trivial⟩) (fun h21 k71=>br k71 (Cnd.not Cnd.seq) (fun h23 k68=>⟨a.2.2.2.2.2.1,⟨rfl,⟨k68.1,br k68.2 (Cnd.not Cnd.b) (fun h26 k47=>⟨k47,trivial⟩) (fun h27 k48=>br k48 Cnd.seq (fun h29 k45=>⟨k45,trivial⟩) (fun h30 k46=>⟨a.2.2.2.2.2.2.1,⟨rfl,⟨k46.1,br k46.2 Cnd.b (fun h33 k42=>br k42 Cnd.dec (fun h35 k39=>⟨k39,trivial⟩) (fun h36 k40=>⟨k40,trivial⟩)) (fun h34 k43=>⟨k43,trivial⟩)⟩⟩⟩))⟩⟩⟩) (fun h24 k69=>br k69 Cnd.seq (fun h50 k66=>⟨k66,trivial⟩) (fun h51 k67=>⟨a.2.2.2.2.2.2.1,⟨rfl,⟨k67.1,br k67.2 Cnd.b (fun h54 k63=>br k63 Cnd.dec (fun h56 k60=>⟨k60,trivial⟩) (fun h57 k61=>⟨k61,trivial⟩)) (fun h55 k64=>⟨k64,trivial⟩)⟩⟩⟩)))⟩))⟩⟩⟩⟩⟩)))⟩⟩⟩)⟩⟩⟩
theorem f38.eq (a:aE):(f38.af a).gives f38.env (f38.args a) (f38.blks a) (f38.res a) (f38.blks' a)=f38.tree a:=by kernel_rfl
theorem fR {s:ByteArray} (h:bB s≠true):false=bB s:=by
 cases hh:bB s with
 | false=>rfl
 | true=>exact absurd hh h
theorem f48.ok (a:ByteArray) (h:a7 a):f48.vc a:=by
 unfold f48.vc
 refine ⟨fun h0=>⟨fun h1=>⟨?_,fun h2=>⟨h,?_⟩,fun h2=>?_⟩,fun h1=>?_⟩,fun h0=>?_⟩
 ·have:a.size≠0:=fun hh=>h0 (eP.2 hh)
  omega
 ·have hs:1≤a.size:=by
   have:a.size≠0:=fun hh=>h0 (eP.2 hh)
   omega
  rw [Bool.eq_iff_iff,Bool.not_eq_true',aC0,f6]
  exact ⟨fun h3=>⟨hs,by omega,h2,h3⟩,fun h3=>h3.2.2.2⟩
 ·exact fR fun hh=>h2 (f6.1 hh).2.2.1
 ·exact fR fun hh=>by have:=(f6.1 hh).2.1; omega
 ·have h0:=Classical.not_not.1 h0
  exact fR fun hh=>by have:=(f6.1 hh).1; rw [eP.1 h0] at this; omega
theorem f58.ok (a:ByteArray) (h:a7 a):f58.vc a:=by
 unfold a7 at h
 unfold f58.vc
 refine ⟨fun h0=>fR fun hh=>by have:=(f6.1 hh).1; omega,fun h0=>⟨fun h1=>fR fun hh=>by have:=(f6.1 hh).2.1; omega,fun h1=>⟨by omega,fun h2=>fR fun hh=>(f6.1 hh).2.2.1 h2,fun h2=>?_⟩⟩⟩
 refine ⟨fun y=>0≤y∧y≤(a.size:Int)∧∀ (i:Nat) (x:UInt8),i < y.toNat→a.data.toList[i]? = some x→ltr x=true,fun y=>a.size - y.toNat,⟨by omega,by omega,fun i x hi=>by simp at hi⟩,fun y hy=>?_⟩
 obtain ⟨g0,g1,g2⟩:=hy
 have hlen:=sN a
 refine ⟨fun hlt=>⟨g0,hlt,?_⟩,fun hge=>?_⟩
 ·have hp:y.toNat < a.data.toList.length:=by omega
  have hb:bAt a y=((a.data.toList[y.toNat]'hp).toNat:Int):=by unfold bAt; rw [dS _ _ hp]
  have hbad:¬ltr (a.data.toList[y.toNat]'hp)=true→false=bB a:=fun hn=>fR fun hh=>hn ((f6.1 hh).2.2.2 y.toNat _ (List.getElem?_eq_getElem hp))
  have hgood:ltr (a.data.toList[y.toNat]'hp)=true→-9223372036854775808≤(y+(1:Int))∧(y+(1:Int))≤9223372036854775807∧(0≤y+1∧y+1≤(a.size:Int)∧∀ (i:Nat) (x:UInt8),i < (y+1).toNat→a.data.toList[i]? = some x→ltr x=true)∧a.size - (y+1).toNat < a.size - y.toNat:=fun hg=>by
   refine ⟨by omega,by omega,⟨by omega,by omega,fun i x hi hx=>?_⟩,by omega⟩
   by_cases he:i=y.toNat
   ·subst he
    rw [List.getElem?_eq_getElem hp] at hx
    cases hx
    exact hg
   ·exact g2 i x (by omega) hx
  rw [aIU] at hbad hgood
  generalize a.data.toList[y.toNat]'hp=x at hb hbad hgood
  rw [hb]
  refine ⟨fun c1=>⟨fun c2=>⟨fun c3=>hbad (by omega),fun c3=>hgood (by omega)⟩,fun c2=>⟨fun c3=>⟨fun c4=>hbad (by omega),fun c4=>hgood (by omega)⟩,fun c3=>hgood (by omega)⟩⟩,
   fun c1=>⟨fun c2=>⟨fun c3=>⟨fun c4=>hbad (by omega),fun c4=>hgood (by omega)⟩,fun c3=>⟨fun c4=>⟨fun c5=>hbad (by omega),fun c5=>hgood (by omega)⟩,fun c4=>hgood (by omega)⟩⟩,fun c2=>hgood (by omega)⟩⟩
 ·symm
  rw [f6]
  exact ⟨by omega,by omega,h2,fun i x hx=>g2 i x (by have:=(List.getElem?_eq_some_iff.1 hx).1; omega) hx⟩
theorem iJ {l:List gT} (h:bL l≠true):false=bL l:=by
 cases hh:bL l with
 | false=>rfl
 | true=>exact absurd hh h
theorem xC {l:List gT} {i:Nat}:mQ l i=true↔bB (l.getD i default).1=true∧bB (l.getD i default).2=true∧(i=0∨sLt (l.getD (i - 1) default).1 (l.getD i default).1):=by
 unfold mQ
 simp only [Bool.and_eq_true,Bool.or_eq_true,beq_iff_eq,and_assoc,aAA]
theorem f50.ok (a:List gT) (h:d6 a):f50.vc a:=by
 unfold f50.vc
 refine ⟨fun h0=>iJ fun hh=>by have:=(gP.1 hh).1; omega,fun h0=>?_⟩
 refine ⟨fun y=>0≤y.2∧y.2≤(a.length:Int)∧(∀ i,i < y.2.toNat→mQ a i=true)∧(0 < y.2→y.1=(at_ a (y.2 - 1)).1),fun y=>a.length - y.2.toNat,⟨by simp only; omega,by simp only; omega,fun i hi=>by simp at hi,fun h=>by simp at h⟩,fun y hy=>?_⟩
 obtain ⟨last,y⟩:=y
 obtain ⟨g0,g1,g2,g3⟩:=hy
 simp only at g0 g1 g2 g3 ⊢
 refine ⟨fun hlt=>?_,fun hge=>?_⟩
 ·obtain ⟨n1,n2⟩:=h _ (aGO g0 hlt)
  have hbad:¬mQ a y.toNat=true→false=bL a:=fun hn=>iJ fun hh=>hn ((gP.1 hh).2 _ (by omega))
  have hgood:mQ a y.toNat=true→-9223372036854775808≤(y+(1:Int))∧(y+(1:Int))≤9223372036854775807∧(0≤y+1∧y+1≤(a.length:Int)∧(∀ i,i < (y+1).toNat→mQ a i=true)∧(0 < y+1→(at_ a y).1=(at_ a (y+1 - 1)).1))∧a.length - (y+1).toNat < a.length - y.toNat:=fun hg=>by
   refine ⟨by omega,by omega,⟨by omega,by omega,fun i hi=>?_,fun _=>by rw [Int.add_sub_cancel]⟩,by omega⟩
   by_cases he:i=y.toNat
   ·subst he; exact hg
   ·exact g2 i (by omega)
  rw [xC,← qW] at hbad hgood
  have hprev:0 < y→(a.getD (y.toNat - 1) default)=at_ a (y - 1):=fun _=>by unfold at_; congr 1; omega
  refine ⟨g0,hlt,n1,fun c1=>hbad fun hh=>c1 hh.1,fun c1=>⟨n2,fun c2=>hbad fun hh=>c2 hh.2.1,fun c2=>⟨fun c3=>⟨fun c4=>?_,fun c4=>?_⟩,fun c3=>?_⟩⟩⟩
  ·refine hbad fun hh=>?_
   rcases hh.2.2 with h1 | h1
   ·omega
   ·rw [hprev c3,← g3 c3] at h1
    have:=aEI.2 c4
    rw [aAA.2 h1] at this
    cases this
  ·refine hgood ⟨Classical.not_not.1 c1,Classical.not_not.1 c2,.inr ?_⟩
   rw [hprev c3,← g3 c3]
   cases hh:slt last (at_ a y).1 with
   | true=>exact aAA.1 hh
   | false=>exact absurd (aEI.1 hh) c4
  ·exact hgood ⟨Classical.not_not.1 c1,Classical.not_not.1 c2,.inl (by omega)⟩
 ·symm
  rw [gP]
  exact ⟨by omega,fun i hi=>g2 i (by omega)⟩
theorem f59.ok (a:List gT) (h:d6 a):f59.vc a:=by
 unfold f59.vc
 refine ⟨fun h0=>iJ fun hh=>by have:=(gP.1 hh).1; omega,fun h0=>?_⟩
 refine ⟨fun y=>0≤y∧y≤(a.length:Int)∧(∀ i,i < y.toNat→mQ a i=true),fun y=>a.length - y.toNat,⟨by omega,by omega,fun i hi=>by simp at hi⟩,fun y hy=>?_⟩
 obtain ⟨g0,g1,g2⟩:=hy
 refine ⟨fun hlt=>?_,fun hge=>?_⟩
 ·obtain ⟨n1,n2⟩:=h _ (aGO g0 hlt)
  have hbad:¬mQ a y.toNat=true→false=bL a:=fun hn=>iJ fun hh=>hn ((gP.1 hh).2 _ (by omega))
  have hgood:mQ a y.toNat=true→-9223372036854775808≤(y+(1:Int))∧(y+(1:Int))≤9223372036854775807∧(0≤y+1∧y+1≤(a.length:Int)∧(∀ i,i < (y+1).toNat→mQ a i=true))∧a.length - (y+1).toNat < a.length - y.toNat:=fun hg=>by
   refine ⟨by omega,by omega,⟨by omega,by omega,fun i hi=>?_⟩,by omega⟩
   by_cases he:i=y.toNat
   ·subst he; exact hg
   ·exact g2 i (by omega)
  rw [xC,← qW] at hbad hgood
  have hprev:0 < y→(a.getD (y.toNat - 1) default)=at_ a (y - 1):=fun _=>by unfold at_; congr 1; omega
  refine ⟨g0,hlt,n1,fun c1=>hbad fun hh=>c1 hh.1,fun c1=>⟨g0,hlt,n2,fun c2=>hbad fun hh=>c2 hh.2.1,fun c2=>⟨fun c3=>⟨by omega,by omega,by omega,by omega,g0,hlt,fun c4=>?_,fun c4=>?_⟩,fun c3=>?_⟩⟩⟩
  ·refine hbad fun hh=>?_
   rcases hh.2.2 with h1 | h1
   ·omega
   ·rw [hprev c3] at h1
    exact c4 h1
  ·refine hgood ⟨Classical.not_not.1 c1,Classical.not_not.1 c2,.inr ?_⟩
   rw [hprev c3]
   exact Classical.not_not.1 c4
  ·exact hgood ⟨Classical.not_not.1 c1,Classical.not_not.1 c2,.inl (by omega)⟩
 ·symm
  rw [gP]
  exact ⟨by omega,fun i hi=>g2 i (by omega)⟩
theorem yR {l:dO} (h:aR l≠true):false=aR l:=by
 cases hh:aR l with
 | false=>rfl
 | true=>exact absurd hh h
theorem aCH (a:dO):f49.vc a:=by
 unfold f49.vc
 have hb:¬((0≤a.1∧a.1≤1048576)∧(0≤a.2.1∧a.2.1≤1048576)∧(0≤a.2.2∧a.2.2≤1048576))→false=aR a:=fun h=>yR fun hh=>h (fG.1 hh)
 refine ⟨fun h=>hb (by omega),fun h1=>⟨fun h=>hb (by omega),fun h2=>⟨fun h=>hb (by omega),fun h3=>⟨fun h=>hb (by omega),fun h4=>⟨fun h=>hb (by omega),fun h5=>⟨fun h=>hb (by omega),fun h6=>?_⟩⟩⟩⟩⟩⟩
 symm
 rw [fG]
 omega
theorem f49.ok (a:dO) (_:True):f49.vc a:=aCH a
theorem f55.ok (a:dO) (_:True):f55.vc a:=aCH a
theorem f35.ok (a:yB) (h:fJ a):f35.vc a:=by
 obtain ⟨h1,h2⟩:=h
 refine ⟨h1,fun c1=>⟨fun c2=>⟨h2,?_⟩,fun c2=>?_⟩,fun c1=>?_⟩
 ·unfold fM; rw [c1,c2]; rfl
 ·unfold fM; rw [c1,Bool.eq_false_iff.2 c2]; rfl
 ·unfold fM; rw [Bool.eq_false_iff.2 c1]; rfl
theorem f36.ok (a:yB) (h:fJ a):f36.vc a:=f35.ok a h
theorem f51.ok (a:ByteArray) (h:a7 a):f51.vc a:=by
 refine ⟨fun c1=>?_,fun c1=>⟨h,?_⟩⟩
 ·subst c1; rfl
 ·unfold dQ
  have:(a.size==0)=false:=by
   rw [beq_eq_false_iff_ne]
   exact fun hh=>c1 (eP.2 hh)
  rw [this]; rfl
theorem cE {t:cJ} (h:¬(bB t.1=true∧bB t.2.1=true∧(0≤t.2.2.1∧t.2.2.1≤9)∧aR t.2.2.2.1=true∧bL t.2.2.2.2.1=true∧dQ t.2.2.2.2.2.1=true∧dQ t.2.2.2.2.2.2.1=true∧uB t.2.2.2.2.2.2.1 t.2.2.2.2.2.2.2=true)):false=bM t:=by
 cases hh:bM t with
 | false=>rfl
 | true=>exact absurd (r7.1 hh) h
theorem f24.ok (a:cJ) (h:gE a):f24.vc a:=by
 obtain ⟨p1,p2,p3,p4,p5⟩:=h
 unfold f24.vc
 refine ⟨p1,fun c=>cE fun hh=>c hh.1,fun c1=>⟨p2,fun c=>cE fun hh=>c hh.2.1,fun c2=>⟨fun c=>cE fun hh=>by have:=hh.2.2.1; omega,fun c3=>⟨fun c=>cE fun hh=>by have:=hh.2.2.1; omega,fun c4 =>
  ⟨fun c=>cE fun hh=>c hh.2.2.2.1,fun c5=>⟨p3,fun c=>cE fun hh=>c hh.2.2.2.2.1,fun c6=>⟨p4,fun c=>cE fun hh=>c hh.2.2.2.2.2.1,fun c7=>⟨p5,fun c=>cE fun hh=>c hh.2.2.2.2.2.2.1,fun c8=>?_⟩⟩⟩⟩⟩⟩⟩⟩
 have e:bM a=uB a.2.2.2.2.2.2.1 a.2.2.2.2.2.2.2:=by
  rw [Bool.eq_iff_iff,r7]
  exact ⟨fun h=>h.2.2.2.2.2.2.2,fun h=>⟨Classical.not_not.1 c1,Classical.not_not.1 c2,⟨by omega,by omega⟩,Classical.not_not.1 c5,Classical.not_not.1 c6,Classical.not_not.1 c7,Classical.not_not.1 c8,h⟩⟩
 rw [e]
 refine ⟨fun c=>?_,fun c=>⟨fun d=>?_,fun d=>?_⟩⟩
 ·rw [Bool.eq_iff_iff,jG,beq_iff_eq]
  have:=eP.1 c
  omega
 ·have:a.2.2.2.2.2.2.1.size≠0:=fun hh=>c (eP.2 hh)
  rw [Bool.eq_iff_iff,jG,decide_eq_true_eq]
  omega
 ·have:a.2.2.2.2.2.2.1.size≠0:=fun hh=>c (eP.2 hh)
  rw [Bool.eq_iff_iff,jG]
  constructor
  ·intro h; cases h
  ·intro h; omega
theorem f38.ok (a:cJ) (h:gE a):f38.vc a:=by
 obtain ⟨p1,p2,p3,p4,p5⟩:=h
 unfold f38.vc
 have maybe_e:∀ s:ByteArray,s=ByteArray.empty→dQ s=true:=fun s hs=>by subst hs; rfl
 have maybe_n:∀ s:ByteArray,bB s=true→dQ s=true:=fun s hs=>by unfold dQ; rw [hs,Bool.or_true]
 have maybe_c:∀ s:ByteArray,¬s=ByteArray.empty→dQ s=true→bB s=true:=fun s hs hm=>by
  unfold dQ at hm
  simp only [Bool.or_eq_true,beq_iff_eq] at hm
  exact hm.resolve_left fun hh=>hs (eP.2 hh)
 refine ⟨p1,fun c=>cE fun hh=>c hh.1,fun c1=>⟨p2,fun c=>cE fun hh=>c hh.2.1,fun c2=>⟨fun c=>cE fun hh=>by have:=hh.2.2.1; omega,fun c3=>⟨fun c=>cE fun hh=>by have:=hh.2.2.1; omega,fun c4 =>
  ⟨fun c=>cE fun hh=>c hh.2.2.2.1,fun c5=>⟨p3,fun c=>cE fun hh=>c hh.2.2.2.2.1,fun c6=>?_⟩⟩⟩⟩⟩⟩
 have rest:dQ a.2.2.2.2.2.1=true →
   (a.2.2.2.2.2.2.1=ByteArray.empty→((a.2.2.2.2.2.2.2==(0:Int))=bM a)) ∧
   (¬(a.2.2.2.2.2.2.1=ByteArray.empty)→a7 a.2.2.2.2.2.2.1 ∧
    ((bB (a.2.2.2.2.2.2.1))=true→((2:Int)≤a.2.2.2.2.2.2.2→(decide (a.2.2.2.2.2.2.2≤(4:Int))=bM a))∧(¬((2:Int)≤a.2.2.2.2.2.2.2)→(false=bM a))) ∧
    (¬((bB (a.2.2.2.2.2.2.1))=true)→(false=bM a))):=fun c7=>by
  have e:dQ a.2.2.2.2.2.2.1=true→bM a=uB a.2.2.2.2.2.2.1 a.2.2.2.2.2.2.2:=fun c8=>by
   rw [Bool.eq_iff_iff,r7]
   exact ⟨fun h=>h.2.2.2.2.2.2.2,fun h=>⟨Classical.not_not.1 c1,Classical.not_not.1 c2,⟨by omega,by omega⟩,Classical.not_not.1 c5,Classical.not_not.1 c6,c7,c8,h⟩⟩
  refine ⟨fun c=>?_,fun c=>⟨p5,fun d=>⟨fun d1=>?_,fun d1=>?_⟩,fun d=>cE fun hh=>d (maybe_c _ c hh.2.2.2.2.2.2.1)⟩⟩
  ·rw [e (maybe_e _ c),Bool.eq_iff_iff,jG,beq_iff_eq]
   have:=eP.1 c
   omega
  ·have:a.2.2.2.2.2.2.1.size≠0:=fun hh=>c (eP.2 hh)
   rw [e (maybe_n _ d),Bool.eq_iff_iff,jG,decide_eq_true_eq]
   omega
  ·have:a.2.2.2.2.2.2.1.size≠0:=fun hh=>c (eP.2 hh)
   rw [e (maybe_n _ d),Bool.eq_iff_iff,jG]
   constructor
   ·intro h; cases h
   ·intro h; omega
 refine ⟨fun c=>⟨p4,fun d=>cE fun hh=>d (maybe_c _ c hh.2.2.2.2.2.1),fun d=>rest (maybe_n _ (Classical.not_not.1 d))⟩,fun c=>rest (maybe_e _ (Classical.not_not.1 c))⟩
end Go.Abs
