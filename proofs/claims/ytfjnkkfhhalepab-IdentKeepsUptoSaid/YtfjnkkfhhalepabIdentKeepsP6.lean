/- Functions, and what the code asks of them: PModel. -/
import Derived.KernelRfl
import Derived.Test.YtfjnkkfhhalepabIdentKeepsP4
import Derived.Test.YtfjnkkfhhalepabIdentKeepsP5
set_option maxRecDepth 100000
set_option maxHeartbeats 4000000
set_option linter.unusedVariables false
set_option linter.unusedSimpArgs false
namespace Go.Abs
open Go
abbrev bK:=ByteArray×ByteArray
def slt (a b:ByteArray):Bool:=Op.bytesLess a.toList b.toList
def dJ (s:ByteArray):Bool:=decide (1≤s.size∧s.size≤16)&&(nth s.data.toList 0 0 != 45)&&s.data.toList.all ltr
def qV (l:List bK) (i:Nat):Bool:=dJ (l.getD i default).1&&dJ (l.getD i default).2&&(i==0 || slt (l.getD (i - 1) default).1 (l.getD i default).1)
def cN (l:List bK):Bool:=decide (l.length≤4)&&(List.range l.length).all (qV l)
def gM (s:ByteArray):Prop:=s.size≤1073741824
def jT (l:List bK):Prop:=∀ x∈l,x.1.size≤1073741824∧x.2.size≤1073741824
theorem gB:∀ x:List UInt8,Op.bytesLess x x=false
 | []=>rfl
 | a::x=>by
  have h:(a < a)=False:=by simp
  simp [Op.bytesLess,gB x]
theorem oZ:∀ x y:List UInt8,Op.bytesLess x y=true∨x=y∨Op.bytesLess y x=true
 | [],[]=>.inr (.inl rfl)
 | [],_::_=>.inl rfl
 | _::_,[]=>.inr (.inr rfl)
 | a::x,b::y=>by
  simp only [Op.bytesLess,Bool.or_eq_true,Bool.and_eq_true,decide_eq_true_eq,beq_iff_eq,List.cons.injEq]
  rcases Nat.lt_trichotomy a.toNat b.toNat with h | h | h
  ·exact .inl (.inl (UInt8.lt_iff_toNat_lt.2 h))
  ·have h:a=b:=UInt8.toNat_inj.1 h
   subst h
   rcases oZ x y with h | h | h
   ·exact .inl (.inr ⟨rfl,h⟩)
   ·exact .inr (.inl ⟨rfl,h⟩)
   ·exact .inr (.inr (.inr ⟨rfl,h⟩))
  ·exact .inr (.inr (.inl (UInt8.lt_iff_toNat_lt.2 h)))
theorem iQ:∀ {x y z:List UInt8},Op.bytesLess x y=true→Op.bytesLess y z=true→Op.bytesLess x z=true
 | [],[],_,h,_=>by cases h
 | [],_::_,[],_,h=>by cases h
 | [],_::_,_::_,_,_=>rfl
 | _::_,[],_,h,_=>by cases h
 | _::_,_::_,[],_,h=>by cases h
 | a::x,b::y,c::z,h,k=>by
  simp only [Op.bytesLess,Bool.or_eq_true,Bool.and_eq_true,decide_eq_true_eq,beq_iff_eq] at h k ⊢
  rcases h with h | ⟨rfl,h⟩ <;> rcases k with k | ⟨rfl,k⟩
  ·exact .inl (UInt8.lt_trans h k)
  ·exact .inl h
  ·exact .inl k
  ·exact .inr ⟨rfl,iQ h k⟩
theorem tS {x y:List UInt8} (h:Op.bytesLess x y=true):Op.bytesLess y x=false:=by
 cases hh:Op.bytesLess y x with
 | false=>rfl
 | true=>rw [← gB x,iQ h hh]
theorem k7 {a b:ByteArray}:slt a b=true↔sLt a b:=Iff.rfl
theorem rX {a b:ByteArray}:slt a b=false↔sLe b a:=by
 unfold slt sLe sLt
 constructor
 ·intro h
  rcases oZ a.toList b.toList with h1 | h1 | h1
  ·rw [h] at h1; cases h1
  ·exact .inr (toList_inj.1 h1.symm)
  ·exact .inl h1
 ·rintro (h | rfl)
  ·exact tS h
  ·exact gB _
theorem qK {a:ByteArray}:a=ByteArray.empty↔a.size=0:=⟨fun h=>by subst h; rfl,fun h=>qN (by
 have:=aBG a
 rw [h] at this
 rw [List.length_eq_zero_iff.1 this]; rfl)⟩
theorem m3 {s:ByteArray}:dJ s=true↔1≤s.size∧s.size≤16∧bAt s 0≠45∧∀ (i:Nat) (x:UInt8),s.data.toList[i]? = some x→ltr x=true:=by
 unfold dJ
 have e:nth s.data.toList 0 0≠45↔bAt s 0≠45:=by
  unfold bAt
  have:nth s.data.toList (Int.toNat 0) 0=45↔(nth s.data.toList (Int.toNat 0) 0).toNat=45:=⟨fun h=>by rw [h]; rfl,fun h=>UInt8.toNat_inj.1 h⟩
  show nth s.data.toList (Int.toNat 0) 0≠45↔_
  rw [Ne,this]
  omega
 simp only [Bool.and_eq_true,decide_eq_true_eq,bne_iff_ne,List.all_eq_true,e,and_assoc]
 constructor
 ·rintro ⟨h1,h2,h3,h4⟩
  exact ⟨h1,h2,h3,fun i x hx=>h4 x (List.mem_of_getElem? hx)⟩
 ·rintro ⟨h1,h2,h3,h4⟩
  exact ⟨h1,h2,h3,fun x hx=>by
   obtain ⟨i,hi⟩:=List.getElem?_of_mem hx
   exact h4 i x hi⟩
theorem aEI {l:List UInt8}:pV l < 0↔∀ (i:Nat) (x:UInt8),l[i]? = some x→ltr x=true:=by
 unfold pV
 constructor
 ·intro h i x hx
  cases hf:l.findIdx? (fun x=>!ltr x) with
  | none =>
   have:=List.findIdx?_eq_none_iff.1 hf x (List.mem_of_getElem? hx)
   simpa using this
  | some j=>rw [hf] at h; simp only at h; omega
 ·intro h
  rw [List.findIdx?_eq_none_iff.2 fun x hx=>by
   obtain ⟨i,hi⟩:=List.getElem?_of_mem hx
   simp [h i x hi]]
  decide
theorem aCG {s:ByteArray}:nZ s=false↔∀ (i:Nat) (x:UInt8),s.data.toList[i]? = some x→ltr x=true:=by
 unfold nZ
 rw [decide_eq_false_iff_not,← aEI]
 omega
theorem oS {α:Type} [Inhabited α] (l:List α) (i:Int):at_ l i=l.getD i.toNat default:=rfl
theorem mF {l:List bK}:cN l=true↔l.length≤4∧∀ i,i < l.length→qV l i=true:=by
 unfold cN
 simp only [Bool.and_eq_true,decide_eq_true_eq,List.all_eq_true,List.mem_range]
theorem aGK {α:Type} [Inhabited α] {l:List α} {i:Nat} (h:i < l.length):l.getD i default∈l:=by
 rw [List.getD_eq_getElem?_getD,List.getElem?_eq_getElem h]
 exact List.getElem_mem h
theorem yQ {α:Type} [Inhabited α] {l:List α} {i:Int} (h0:0≤i) (h:i < (l.length:Int)):at_ l i∈l:=aGK (by omega)
def f48.args (a:ByteArray):List D:=[.str a]
def f48.blks (a:ByteArray):List (List D):=[]
def f48.res (a:ByteArray):List D:=[.bool (dJ a)]
def f48.blks' (a:ByteArray):List (List D):=[]
def f48.C:aK:=FnC f48.args f48.blks (fun a=>gM a) f48.res f48.blks'
set_option linter.unusedVariables false
def f48.kills (a:ByteArray):List Hint:=[]
def f48.cuts (a:ByteArray):List (Nat×Σ β:Type,β→Tm):=[]
def f48.af (a:ByteArray):AF:=AF.mk (.seq (.region [⟨(some 2),0,.move,[.c (.bool false)],none⟩])
 (.seq (.region [mT 3 1 0,
 ⟨(some 4),2,(.bin .neq),[.t 3,.c (.str ByteArray.empty)],none⟩,
 mT 5 3 4,
 oG 6 4 .move [0] 5 true,
 oG 7 5 (.len true) [6] 5 true,
 ⟨(some 8),6,(.bin .leq),[.t 7,.c (.int .i64 (16))],(some (5,true))⟩,
 ⟨(some 9),7,.pick,[.t 5,.t 8,.c (.bool false)],none⟩,
 mT 10 8 9,
 oG 11 9 .move [0] 10 true,
 ⟨(some 12),10,.indexStr,[.t 11,.c (.int .i64 (0))],(some (10,true))⟩,
 ⟨(some 13),11,(.bin .neq),[.t 12,.c (.int .u8 (45))],(some (10,true))⟩,
 ⟨(some 14),12,.pick,[.t 10,.t 13,.c (.bool false)],none⟩,
 mT 15 13 14,
 oG 16 14 .move [0] 15 true,
 ⟨(some 17),15,(.call false 66),[.t 16,.c (.fn 67 [])],(some (15,true))⟩,
 oG 18 19 (.un .not) [17] 15 true,
 ⟨(some 19),20,.pick,[.t 15,.t 18,.c (.bool false)],none⟩,
 mT 2 21 19])
 (.ret)))
 [.tmp 2] 0 19
def f48.env:Env:=[(66,f66.C)]
def f48.tree (a:ByteArray):Prop:=Br (!(a.toList==ByteArray.empty.toList)) (Br (decide ((a.size:Int)≤(16:Int))) (Br (decide ((0:Int)≤(0:Int))&&decide ((0:Int) < (a.size:Int))) (Br ((bAt a (0:Int)) != (45:Int)) (∃ c8:ByteArray,(a=c8)∧(DEqs [] [])∧(eI c8)∧((!(nZ c8))=(dJ a))∧True) ((false=(dJ a))∧True)) False) ((false=(dJ a))∧True)) ((false=(dJ a))∧True)
def f48.vc (a:ByteArray):Prop:=((¬(a=ByteArray.empty)→(((a.size:Int)≤(16:Int)→((0:Int) < (a.size:Int)∧((¬(bAt a (0:Int))=(45:Int)→(eI a∧((!(nZ a))=dJ a)))∧(¬(¬(bAt a (0:Int))=(45:Int))→(false=dJ a)))))∧(¬((a.size:Int)≤(16:Int))→(false=dJ a))))∧(¬(¬(a=ByteArray.empty))→(false=dJ a)))
theorem f48.of (a:ByteArray) (h:f48.vc a):f48.tree a:=br h (Cnd.not Cnd.seq) (fun h1 k19=>br k19 Cnd.dec (fun h3 k16=>chk k16.2 Cnd.ix ⟨(by decide),k16.1⟩ (fun h5 k14=>br k14 Cnd.ne (fun h6 k12=>⟨a,⟨rfl,⟨(DEqs.refl _),⟨k12.1,⟨k12.2,trivial⟩⟩⟩⟩⟩) (fun h7 k13=>⟨k13,trivial⟩))) (fun h4 k17=>⟨k17,trivial⟩)) (fun h2 k20=>⟨k20,trivial⟩)
theorem f48.eq (a:ByteArray):(f48.af a).gives f48.env (f48.args a) (f48.blks a) (f48.res a) (f48.blks' a)=f48.tree a:=by kernel_rfl
def f50.ent (K:(List (aC))→Prop) (t:List (aC)):Prop:=∃ c:List (aC),SlQ t.length c.length (gl aB t) (gl aB c) (K c)
theorem f50.ei {K:(List (aC))→Prop} {t:List (aC)} (h:K t):f50.ent K t:=⟨t,slQ (rS aB) (h)⟩
def f50.args (a:List (aC)):List D:=[.slice .ro 2 a.length (gl aB a)]
def f50.blks (a:List (aC)):List (List D):=[]
def f50.res (a:List (aC)):List D:=[.bool (cN a)]
def f50.blks' (a:List (aC)):List (List D):=[]
def f50.C:aK:=FnC f50.args f50.blks (fun a=>jT a) f50.res f50.blks'
def f50.S0 (a:List (aC)) (x:ByteArray×Int):Tm:=⟨[.dead,.dead,.dead,.str x.1,.dead,.dead,.dead,.dead,.dead,.slice .ro 2 a.length (gl aB a),.int .i64 (a.length:Int),.int .i64 x.2,.dead,.dead,.dead,.dead,.dead,.dead,.dead,.dead,.dead,.dead,.dead,.dead,.dead,.dead,.dead,.dead,.dead,.dead,.dead,.dead,.dead,.dead,.dead,.dead,.dead,.dead,.dead],[],[]⟩
def f50.kills (a:List (aC)):List Hint:=[.tell (ByteArray×Int) (f50.S0 a)]
def f50.cuts (a:List (aC)):List (Nat×Σ β:Type,β→Tm):=[]
def f50.af (a:List (aC)):AF:=AF.mk (.seq (.region [⟨(some 2),0,.move,[.c (.bool false)],none⟩])
 (.seq (.seq (.region [mT 6 1 0,
 oT 7 2 (.len false) [6],
 ⟨(some 8),3,(.bin .gtr),[.t 7,.c (.int .i64 (4))],none⟩])
 (.cond (.t 8) (.seq (.region [⟨(some 2),4,.move,[.c (.bool false)],none⟩])
 (.ret)) (.skip)))
 (.seq (.region [⟨(some 3),5,.move,[.c (.str ByteArray.empty)],none⟩])
 (.seq (.seq (.region [mT 9 6 0,
 oT 10 7 (.len false) [9],
 ⟨(some 11),8,.move,[.c (.int .i64 (0))],none⟩])
 (.block 0 (.loopT (ByteArray×Int) (f50.S0 a) 9 50 (.seq (.region [oT 12 9 (.bin .lss) [11,10]])
 (.seq (.cond (.t 12) (.skip) (.exit 0))
 (.seq (.block 1 (.seq (.region [mT 13 10 11,
 oT 14 11 (.indexAddr 2 none) [9,11],
 oT 15 12 (.load true 2) [14],
 oT 5 13 (.alloc [.str ByteArray.empty,.str ByteArray.empty]) [],
 mT 4 16 13,
 ⟨none,17,(.store 2),[.t 5,.t 15],none⟩])
 (.seq (.seq (.region [oT 16 18 (.fieldAddr 0) [5],
 oT 17 19 (.load false 1) [16],
 oT 18 20 (.call false 48) [17],
 oT 19 24 (.un .not) [18],
 mT 20 25 19,
 oG 21 26 (.fieldAddr 1) [5] 20 false,
 oG 22 27 (.load false 1) [21] 20 false,
 oG 23 28 (.call false 48) [22] 20 false,
 oG 24 32 (.un .not) [23] 20 false,
 ⟨(some 25),33,.pick,[.t 20,.c (.bool true),.t 24],none⟩,
 mT 26 34 25,
 oG 27 35 .move [4] 26 false,
 ⟨(some 28),36,(.bin .gtr),[.t 27,.c (.int .i64 (0))],(some (26,false))⟩,
 oG 29 37 .move [28] 26 false,
 oG 30 38 (.fieldAddr 0) [5] 29 true,
 oG 31 39 (.load false 1) [30] 29 true,
 oG 32 40 .move [3] 29 true,
 oG 33 41 (.bin .leq) [31,32] 29 true,
 ⟨(some 34),42,.pick,[.t 29,.t 33,.c (.bool false)],(some (26,false))⟩,
 ⟨(some 35),43,.pick,[.t 26,.c (.bool true),.t 34],none⟩])
 (.cond (.t 35) (.seq (.region [⟨(some 2),44,.move,[.c (.bool false)],none⟩])
 (.ret)) (.skip)))
 (.region [oT 36 45 (.fieldAddr 0) [5],
 oT 37 46 (.load false 1) [36],
 mT 3 47 37]))))
 (.region [⟨(some 38),48,(.bin .add),[.t 11,.c (.int .i64 (1))],none⟩,
 mT 11 49 38])))))))
 (.seq (.region [⟨(some 2),50,.move,[.c (.bool true)],none⟩])
 (.ret))))))
 [.tmp 2] 0 38
def f50.env:Env:=[(48,f48.C)]
def f50.tree (a:List (aC)):Prop:=Br (decide ((4:Int) < (a.length:Int))) ((false=(cN a))∧True) (∃ (I5:(ByteArray×Int)→Prop) (μ6:(ByteArray×Int)→Nat),(∃ x4:ByteArray×Int,(ByteArray.empty=x4.1)∧SlS aB a (((a.length:Int)=(a.length:Int))∧((0:Int)=x4.2)∧I5 x4))∧∀ y7:ByteArray×Int,I5 y7→(Br (decide (y7.2 < (a.length:Int))) (Br (decide ((0:Int)≤y7.2)&&decide (y7.2 < (a.length:Int))) (∃ c11:ByteArray,(((at_ a y7.2).1)=c11)∧(gM c11)∧Br (!(dJ c11)) ((false=(cN a))∧True) (∃ c15:ByteArray,(((at_ a y7.2).2)=c15)∧(gM c15)∧Br (!(dJ c15)) ((false=(cN a))∧True) (Br (decide ((0:Int) < y7.2)) (Br (Op.bytesLess ((at_ a y7.2).1).toList y7.1.toList || ((at_ a y7.2).1).toList==y7.1.toList) ((false=(cN a))∧True) (Let (wI (y7.2+(1:Int))) (fun v24:Int=>∃ x25:ByteArray×Int,(((at_ a y7.2).1)=x25.1)∧SlS aB a (((a.length:Int)=(a.length:Int))∧(v24=x25.2)∧I5 x25∧μ6 x25 < μ6 y7)))) (Let (wI (y7.2+(1:Int))) (fun v32:Int=>∃ x33:ByteArray×Int,(((at_ a y7.2).1)=x33.1)∧SlS aB a (((a.length:Int)=(a.length:Int))∧(v32=x33.2)∧I5 x33∧μ6 x33 < μ6 y7)))))) False) ((true=(cN a))∧True)))
def f50.vc (a:List (aC)):Prop:=(((4:Int) < (a.length:Int)→(false=cN a))∧(¬((4:Int) < (a.length:Int))→(∃ (I5:(ByteArray×Int)→Prop) (μ6:(ByteArray×Int)→Nat),I5 (ByteArray.empty,(0:Int))∧∀ y7:ByteArray×Int,I5 y7→((y7.2 < (a.length:Int)→((0:Int)≤y7.2∧y7.2 < (a.length:Int)∧(gM ((at_ a y7.2).1)∧((¬((dJ ((at_ a y7.2).1))=true)→(false=cN a))∧(¬(¬((dJ ((at_ a y7.2).1))=true))→(gM ((at_ a y7.2).2)∧((¬((dJ ((at_ a y7.2).2))=true)→(false=cN a))∧(¬(¬((dJ ((at_ a y7.2).2))=true))→(((0:Int) < y7.2→((sLe ((at_ a y7.2).1) y7.1→(false=cN a))∧(¬(sLe ((at_ a y7.2).1) y7.1)→(-9223372036854775808≤(y7.2+(1:Int))∧(y7.2+(1:Int))≤9223372036854775807∧(I5 ((at_ a y7.2).1,(y7.2+(1:Int)))∧μ6 ((at_ a y7.2).1,(y7.2+(1:Int))) < μ6 y7)))))∧(¬((0:Int) < y7.2)→(-9223372036854775808≤(y7.2+(1:Int))∧(y7.2+(1:Int))≤9223372036854775807∧(I5 ((at_ a y7.2).1,(y7.2+(1:Int)))∧μ6 ((at_ a y7.2).1,(y7.2+(1:Int))) < μ6 y7))))))))))))∧(¬(y7.2 < (a.length:Int))→(true=cN a))))))
theorem f50.of (a:List (aC)) (h:f50.vc a):f50.tree a:=br h Cnd.dec (fun h1 k53=>⟨k53,trivial⟩) (fun h2 k54=>Exists.elim k54 (fun I5 h50_=>Exists.elim h50_ (fun μ6 h50=>⟨I5,μ6,⟨(ByteArray.empty,(0:Int)),⟨rfl,SlS.mk  (⟨rfl,⟨rfl,h50.1⟩⟩)⟩⟩,fun y7 h52=>br (h50.2 y7 h52) Cnd.dec (fun h8 k48=>chk k48.2.2 Cnd.ix ⟨k48.1,k48.2.1⟩ (fun h10 k46=>⟨(at_ a y7.2).1,⟨rfl,⟨k46.1,br k46.2 (Cnd.not Cnd.b) (fun h12 k43=>⟨k43,trivial⟩) (fun h13 k44=>⟨(at_ a y7.2).2,⟨rfl,⟨k44.1,br k44.2 (Cnd.not Cnd.b) (fun h16 k40=>⟨k40,trivial⟩) (fun h17 k41=>br k41 Cnd.dec (fun h19 k38=>br k38 Cnd.sle (fun h21 k30=>⟨k30,trivial⟩) (fun h22 k31=>wrapK.i64 k31 (fun h27 h28 k29=>⟨((at_ a y7.2).1,(y7.2+(1:Int))),⟨rfl,SlS.mk  (⟨rfl,⟨rfl,k29⟩⟩)⟩⟩))) (fun h20 k39=>wrapK.i64 k39 (fun h35 h36 k37=>⟨((at_ a y7.2).1,(y7.2+(1:Int))),⟨rfl,SlS.mk  (⟨rfl,⟨rfl,k37⟩⟩)⟩⟩)))⟩⟩⟩)⟩⟩⟩)) (fun h9 k49=>⟨k49,trivial⟩)⟩)))
theorem f50.eq (a:List (aC)):(f50.af a).gives f50.env (f50.args a) (f50.blks a) (f50.res a) (f50.blks' a)=f50.tree a:=by kernel_rfl
theorem mC {s:ByteArray} (h:dJ s≠true):false=dJ s:=by
 cases hh:dJ s with
 | false=>rfl
 | true=>exact absurd hh h
theorem f48.ok (a:ByteArray) (h:gM a):f48.vc a:=by
 unfold f48.vc
 refine ⟨fun h0=>⟨fun h1=>⟨?_,fun h2=>⟨h,?_⟩,fun h2=>?_⟩,fun h1=>?_⟩,fun h0=>?_⟩
 ·have:a.size≠0:=fun hh=>h0 (qK.2 hh)
  omega
 ·have hs:1≤a.size:=by
   have:a.size≠0:=fun hh=>h0 (qK.2 hh)
   omega
  rw [Bool.eq_iff_iff,Bool.not_eq_true',aCG,m3]
  exact ⟨fun h3=>⟨hs,by omega,h2,h3⟩,fun h3=>h3.2.2.2⟩
 ·exact mC fun hh=>h2 (m3.1 hh).2.2.1
 ·exact mC fun hh=>by have:=(m3.1 hh).2.1; omega
 ·have h0:=Classical.not_not.1 h0
  exact mC fun hh=>by have:=(m3.1 hh).1; rw [qK.1 h0] at this; omega
theorem nO {l:List bK} (h:cN l≠true):false=cN l:=by
 cases hh:cN l with
 | false=>rfl
 | true=>exact absurd hh h
theorem aEC {l:List bK} {i:Nat}:qV l i=true↔dJ (l.getD i default).1=true∧dJ (l.getD i default).2=true∧(i=0∨sLt (l.getD (i - 1) default).1 (l.getD i default).1):=by
 unfold qV
 simp only [Bool.and_eq_true,Bool.or_eq_true,beq_iff_eq,and_assoc,k7]
theorem f50.ok (a:List bK) (h:jT a):f50.vc a:=by
 unfold f50.vc
 refine ⟨fun h0=>nO fun hh=>by have:=(mF.1 hh).1; omega,fun h0=>?_⟩
 refine ⟨fun y=>0≤y.2∧y.2≤(a.length:Int)∧(∀ i,i < y.2.toNat→qV a i=true)∧(0 < y.2→y.1=(at_ a (y.2 - 1)).1),fun y=>a.length - y.2.toNat,⟨by simp only; omega,by simp only; omega,fun i hi=>by simp at hi,fun h=>by simp at h⟩,fun y hy=>?_⟩
 obtain ⟨last,y⟩:=y
 obtain ⟨g0,g1,g2,g3⟩:=hy
 simp only at g0 g1 g2 g3 ⊢
 refine ⟨fun hlt=>?_,fun hge=>?_⟩
 ·obtain ⟨n1,n2⟩:=h _ (yQ g0 hlt)
  have hbad:¬qV a y.toNat=true→false=cN a:=fun hn=>nO fun hh=>hn ((mF.1 hh).2 _ (by omega))
  have hgood:qV a y.toNat=true→-9223372036854775808≤(y+(1:Int))∧(y+(1:Int))≤9223372036854775807∧(0≤y+1∧y+1≤(a.length:Int)∧(∀ i,i < (y+1).toNat→qV a i=true)∧(0 < y+1→(at_ a y).1=(at_ a (y+1 - 1)).1))∧a.length - (y+1).toNat < a.length - y.toNat:=fun hg=>by
   refine ⟨by omega,by omega,⟨by omega,by omega,fun i hi=>?_,fun _=>by rw [Int.add_sub_cancel]⟩,by omega⟩
   by_cases he:i=y.toNat
   ·subst he; exact hg
   ·exact g2 i (by omega)
  rw [aEC,← oS] at hbad hgood
  have hprev:0 < y→(a.getD (y.toNat - 1) default)=at_ a (y - 1):=fun _=>by unfold at_; congr 1; omega
  refine ⟨g0,hlt,n1,fun c1=>hbad fun hh=>c1 hh.1,fun c1=>⟨n2,fun c2=>hbad fun hh=>c2 hh.2.1,fun c2=>⟨fun c3=>⟨fun c4=>?_,fun c4=>?_⟩,fun c3=>?_⟩⟩⟩
  ·refine hbad fun hh=>?_
   rcases hh.2.2 with h1 | h1
   ·omega
   ·rw [hprev c3,← g3 c3] at h1
    have:=rX.2 c4
    rw [k7.2 h1] at this
    cases this
  ·refine hgood ⟨Classical.not_not.1 c1,Classical.not_not.1 c2,.inr ?_⟩
   rw [hprev c3,← g3 c3]
   cases hh:slt last (at_ a y).1 with
   | true=>exact k7.1 hh
   | false=>exact absurd (rX.1 hh) c4
  ·exact hgood ⟨Classical.not_not.1 c1,Classical.not_not.1 c2,.inl (by omega)⟩
 ·symm
  rw [mF]
  exact ⟨by omega,fun i hi=>g2 i (by omega)⟩
end Go.Abs
