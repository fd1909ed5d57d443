/- Functions, and what the code asks of them: PModel. -/
import Derived.KernelRfl
import Derived.Test.YtcmjinkfgbadoabLabelsBothP5
import Derived.Test.YtcmjinkfgbadoabLabelsBothP6
set_option linter.unusedVariables false
set_option linter.unusedSimpArgs false
set_option linter.unusedSectionVars false
namespace Go.Abs
open Go
abbrev mJ:=ByteArray×ByteArray
def slt (a b:ByteArray):Bool:=Op.bytesLess a.toList b.toList
theorem sO:∀ x:List UInt8,Op.bytesLess x x=false
 | []=>rfl
 | a::x=>by
  have h:(a < a)=False:=by simp
  simp [Op.bytesLess,sO x]
theorem aCF:∀ x y:List UInt8,Op.bytesLess x y=true∨x=y∨Op.bytesLess y x=true
 | [],[]=>.inr (.inl rfl)
 | [],_::_=>.inl rfl
 | _::_,[]=>.inr (.inr rfl)
 | a::x,b::y=>by
  simp only [Op.bytesLess,Bool.or_eq_true,Bool.and_eq_true,decide_eq_true_eq,beq_iff_eq,List.cons.injEq]
  rcases Nat.lt_trichotomy a.toNat b.toNat with h | h | h
  ·exact .inl (.inl (UInt8.lt_iff_toNat_lt.2 h))
  ·have h:a=b:=UInt8.toNat_inj.1 h
   subst h
   rcases aCF x y with h | h | h
   ·exact .inl (.inr ⟨rfl,h⟩)
   ·exact .inr (.inl ⟨rfl,h⟩)
   ·exact .inr (.inr (.inr ⟨rfl,h⟩))
  ·exact .inr (.inr (.inl (UInt8.lt_iff_toNat_lt.2 h)))
theorem wQ:∀ {x y z:List UInt8},Op.bytesLess x y=true→Op.bytesLess y z=true→Op.bytesLess x z=true
 | [],[],_,h,_=>by cases h
 | [],_::_,[],_,h=>by cases h
 | [],_::_,_::_,_,_=>rfl
 | _::_,[],_,h,_=>by cases h
 | _::_,_::_,[],_,h=>by cases h
 | a::x,b::y,c::z,h,k=>by
  simp only [Op.bytesLess,Bool.or_eq_true,Bool.and_eq_true,decide_eq_true_eq,beq_iff_eq] at h k ⊢
  rcases h with h | ⟨rfl,h⟩ <;> rcases k with k | ⟨rfl,k⟩
  ·exact .inl (UInt8.lt_trans h k)
  ·exact .inl h
  ·exact .inl k
  ·exact .inr ⟨rfl,wQ h k⟩
theorem d9 {α:Type} [Inhabited α] (l:List α) (i:Int):at_ l i=l.getD i.toNat default:=rfl
theorem aB1 {α:Type} [Inhabited α] {l:List α} {i:Nat} (h:i < l.length):l.getD i default∈l:=by
 rw [List.getD_eq_getElem?_getD,List.getElem?_eq_getElem h]
 exact List.getElem_mem h
set_option linter.unusedVariables false
set_option linter.unusedVariables false
end Go.Abs
