/- Functions, and what the code asks of them: PAgentLaw. -/
import Derived.KernelRfl
import Derived.Test.YtabnaedcnfkmiadB4c9c6f61
import Derived.Test.YtabnaedcnfkmiadB75c84e37
import Derived.Test.YtabnaedcnfkmiadB0354929c
import Derived.Test.YtabnaedcnfkmiadBfd83db68
import Derived.Test.YtabnaedcnfkmiadBd51596f7
import Derived.Test.YtabnaedcnfkmiadBe6284447
import Derived.Test.YtabnaedcnfkmiadB8bdfae8a
import Derived.Test.YtabnaedcnfkmiadB24cb6fd3
import Derived.Test.YtabnaedcnfkmiadB076b0d39
set_option linter.unusedVariables false
set_option linter.unusedSimpArgs false
-- interregnum/interregnumlaw24.AgentStamps
namespace Go.Abs
open Go
end Go.Abs

/- interregnum/interregnumlaw24.AgentStamps -/
namespace Go.Abs
open Go
set_option linter.unusedVariables false
end Go.Abs

-- interregnum/interregnumlaw24.AgentPlays
namespace Go.Abs
open Go
end Go.Abs

/- interregnum/interregnumlaw24.AgentPlays -/
namespace Go.Abs
open Go
set_option linter.unusedVariables false
end Go.Abs

-- interregnum/interregnumlaw24.AgentLatest
namespace Go.Abs
open Go
end Go.Abs

/- interregnum/interregnumlaw24.AgentLatest -/
namespace Go.Abs
open Go
set_option linter.unusedVariables false
end Go.Abs

/- The laws of layer 24. -/
namespace Go.Abs
open Go

def Lt3 (a b : TRes) : Prop := a.1 < b.1 ∨ a.1 = b.1 ∧ (a.2.1 < b.2.1 ∨ a.2.1 = b.2.1 ∧ a.2.2 < b.2.2)

theorem cmp3 (a b : TRes) : (cmpS (a,b) = -1 ∧ Lt3 a b) ∨ (cmpS (a,b) = 0 ∧ a = b) ∨ (cmpS (a,b) = 1 ∧ Lt3 b a) := by
  obtain ⟨a1,a2,a3⟩ := a
  obtain ⟨b1,b2,b3⟩ := b
  have c : ∀ x y : Int,(cmpI (x,y) = -1 ∧ x < y) ∨ (cmpI (x,y) = 0 ∧ x = y) ∨ (cmpI (x,y) = 1 ∧ y < x) := fun x y => by
    unfold cmpI
    simp only
    by_cases h : x < y
    · rw [if_pos h]; exact .inl ⟨rfl,h⟩
    · rw [if_neg h]
      by_cases h2 : y < x
      · rw [if_pos h2]; exact .inr (.inr ⟨rfl,h2⟩)
      · rw [if_neg h2]; exact .inr (.inl ⟨rfl,by omega⟩)
  unfold cmpS Lt3
  simp only [Prod.mk.injEq]
  have n1 : ¬ ((-1 : Int) = 0) := by decide
  have n2 : ¬ ((1 : Int) = 0) := by decide
  rcases c a1 b1 with ⟨e1,h1⟩ | ⟨e1,h1⟩ | ⟨e1,h1⟩
  · rw [e1,if_pos n1]; exact .inl ⟨rfl,.inl h1⟩
  · rw [e1,if_neg (not_not_intro rfl)]
    rcases c a2 b2 with ⟨e2,h2⟩ | ⟨e2,h2⟩ | ⟨e2,h2⟩
    · rw [e2,if_pos n1]; exact .inl ⟨rfl,.inr ⟨h1,.inl h2⟩⟩
    · rw [e2,if_neg (not_not_intro rfl)]
      rcases c a3 b3 with ⟨e3,h3⟩ | ⟨e3,h3⟩ | ⟨e3,h3⟩
      · exact .inl ⟨e3,.inr ⟨h1,.inr ⟨h2,h3⟩⟩⟩
      · exact .inr (.inl ⟨e3,h1,h2,h3⟩)
      · exact .inr (.inr ⟨e3,.inr ⟨h1.symm,.inr ⟨h2.symm,h3⟩⟩⟩)
    · rw [e2,if_pos n2]; exact .inr (.inr ⟨rfl,.inr ⟨h1.symm,.inl h2⟩⟩)
  · rw [e1,if_pos n2]; exact .inr (.inr ⟨rfl,.inl h1⟩)

theorem lt3_irr {a : TRes} (h : Lt3 a a) : False := by unfold Lt3 at h; omega
theorem cmp_self (a : TRes) : cmpS (a,a) = 0 := by
  rcases cmp3 a a with ⟨_,h⟩ | ⟨h,_⟩ | ⟨_,h⟩
  · exact (lt3_irr h).elim
  · exact h
  · exact (lt3_irr h).elim
theorem item_of_size {l : List TItem} (h : k_sl_interregnumref24_Item.size l ≤ 1048576) : items_pre l := by
  have h2 : (l.map k_interregnumref24_Item.size).sum + 1 ≤ 1048576 := h
  have h3 := sum_len k_interregnumref24_Item.size (fun x => Nat.le_add_left 1 _) l
  refine ⟨by unfold L20; omega,fun x hx => ?_⟩
  have h1 : k_interregnumref24_Item.size x ≤ (l.map k_interregnumref24_Item.size).sum := sum_mem _ hx
  have h4 : x.1.size + 1 + (1 + (1 + (1 + (1 + 1) + 1))) + 1 = k_interregnumref24_Item.size x := rfl
  unfold name_pre
  omega
theorem ord_of_size {o : TOrd} (h : k_interregnumref24_Order.size o ≤ 1048576) : ord_pre o := by
  have h : o.1.size + 1 + (1 + (1 + 1) + 1 + (1 + (1 + 1) + 1 + k_sl_interregnumref24_Item.size o.2.2.2)) + 1 ≤ 1048576 := h
  exact ⟨by unfold name_pre; omega,item_of_size (by omega)⟩
theorem ords_of_size {l : List TOrd} (h : k_sl_interregnumref24_Order.size l ≤ 1048576) : few24_pre l := by
  have h2 : (l.map k_interregnumref24_Order.size).sum + 1 ≤ 1048576 := h
  have h3 := sum_len k_interregnumref24_Order.size (fun x => Nat.le_add_left 1 _) l
  refine ⟨by unfold L20; omega,fun x hx => ord_of_size ?_⟩
  have h1 : k_interregnumref24_Order.size x ≤ (l.map k_interregnumref24_Order.size).sum := sum_mem _ hx
  omega

theorem take_props (a : TAg) (o : TOrd) (h : L20 a.2.2) (ho : ord_pre o) : (¬ (takeA (a,o)).2.1 = 1 → (takeA (a,o)).1 = ((takeA (a,o)).2.2.1,(takeA (a,o)).2.2.2.1)) ∧ ((takeA (a,o)).2.1 = 1 → (takeA (a,o)).1 = (ByteArray.empty,(0,0,0))) ∧ L20 (takeA (a,o)).2.2.2.2 := by
  unfold takeA
  simp only
  split
  · exact ⟨fun c => absurd rfl c,fun _ => rfl,h⟩
  · split
    · exact ⟨fun _ => rfl,fun c => absurd (show (12 : Int) = 1 from c) (by decide),h⟩
    · exact ⟨fun _ => rfl,fun c => absurd (show (0 : Int) = 1 from c) (by decide),ho.2.1⟩

end Go.Abs
