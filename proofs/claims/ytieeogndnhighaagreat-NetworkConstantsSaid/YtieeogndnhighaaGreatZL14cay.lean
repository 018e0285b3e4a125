/- A part of the proof that ends in L14c (W11b, W11f). No condition. -/
import Derived.Below
import Derived.BigQuiet
import Derived.Deep.Draws
import Derived.Deep.Light
import Derived.Deep.MidRow
import Derived.Deep.QuietTactic
import Derived.Handy
import Derived.Laws.AppendOwnNone
import Derived.Laws.CopyOwn
import Derived.Laws.MakeOwn
import Derived.Lib.Hide
import Derived.Lib.MinMax
import Derived.Maps.AppendAt
import Derived.Orders
import Derived.OrdersHeld
import Derived.StillTail
import Derived.Tactics
import Derived.Test.YtieeogndnhighaaGreatRows
import Derived.Test.YtieeogndnhighaaGreatShelf
import Derived.WalkKit
import Derived.WalkLawsBesides
import Derived.WalkSpells
import Derived.Test.YtieeogndnhighaaGreatZL14cak
import Derived.Test.YtieeogndnhighaaGreatZL14can
import Derived.Test.YtieeogndnhighaaGreatZL14car
import Derived.Test.YtieeogndnhighaaGreatZL14cat
set_option linter.unusedSimpArgs false
set_option linter.unusedVariables false
set_option linter.unusedSectionVars false
namespace Go.Proofs.YtieeogndnhighaaGreat
open Go.RowKit
/-- What Refine returns: the probability, the error. -/
def S11.refineR (xs : List Int) (c p : Int) : Int := if S11.usable xs c p = 0 then S11.refine xs c.toNat p else 0
end Go.Proofs.YtieeogndnhighaaGreat
set_option linter.unusedSimpArgs false
set_option linter.unusedVariables false
set_option linter.unusedSectionVars false
namespace Go.Proofs.YtieeogndnhighaaGreat
open Go.RowKit
/-- A map as a value. -/
def MapIs (L : List Int) (V : Value) (w' : World) : Prop := ∃ a cap, V = .agg #[.slice a L.length cap] ∧ L.length ≤ cap ∧ cap ≤ 9223372036854775807 ∧ Rd w' a (Ints L)
theorem MapIs.nil (w : World) : MapIs [] (.agg #[.slice none 0 0]) w := ⟨none, 0, rfl, by simp, by omega, Rd.nil _ _⟩
theorem MapIs.step {L : List Int} {V : Value} {w w' : World} (h : MapIs L V w) (hb : Below w.heap.size w w') : MapIs L V w' := by
  obtain ⟨a, cap, e, h1, h2, h3⟩ := h
  exact ⟨a, cap, e, h1, h2, h3.step hb⟩
end Go.Proofs.YtieeogndnhighaaGreat
