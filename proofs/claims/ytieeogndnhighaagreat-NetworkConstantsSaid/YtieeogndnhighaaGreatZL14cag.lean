/- A part of the proof that ends in L14c (Com0). No condition. -/
import Derived.Below
import Derived.Deep.Draws
import Derived.Deep.MidRow
import Derived.Lib.Hide
import Derived.Orders
import Derived.OrdersHeld
import Derived.Tactics
import Derived.WalkKit
import Derived.Test.YtieeogndnhighaaGreatZL14cad
set_option linter.unusedSimpArgs false
set_option linter.unusedVariables false
set_option linter.unusedSectionVars false
namespace Go.Proofs.YtieeogndnhighaaGreat
open Go.RowKit
theorem belowN {B : Nat} {a w : World} (h : Below B a w) (n : Nat) : Below B a (w.drewN n) := h.trans ⟨rfl, rfl, rfl, Nat.le_refl _, fun _ _ => rfl⟩
/-- Bytes. -/
def Bts (xs : List Int) : List Value := xs.map (Value.int .u8)
theorem Bts_length (xs : List Int) : (Bts xs).length = xs.length := List.length_map _
theorem any_take_succ {α : Type} (f : α → Bool) (xs : List α) (k : Nat) (h : k < xs.length) : (xs.take (k + 1)).any f = ((xs.take k).any f || f xs[k]) := by
  rw [List.take_succ_eq_append_getElem h, List.any_append, List.any_cons, List.any_nil, Bool.or_false]
theorem any_of_at {α : Type} (f : α → Bool) (xs : List α) (k : Nat) (h : k < xs.length) (ht : f xs[k] = true) : xs.any f = true := by
  rw [List.any_eq_true]
  exact ⟨_, List.getElem_mem h, ht⟩
end Go.Proofs.YtieeogndnhighaaGreat
