/- A part of the proof that ends in L14a (W11f). No condition. -/
import Derived.Below
import Derived.BigQuiet
import Derived.Deep.Draws
import Derived.Deep.Light
import Derived.Deep.MidRow
import Derived.Deep.QuietTactic
import Derived.Handy
import Derived.Laws.AppendOwnNone
import Derived.Laws.CopyOwn
import Derived.Laws.MakeOwn
import Derived.Lib.Hide
import Derived.Lib.MinMax
import Derived.Maps.AppendAt
import Derived.Orders
import Derived.OrdersHeld
import Derived.StillTail
import Derived.Tactics
import Derived.Test.YtieeogndnhighaaGreatRows
import Derived.Test.YtieeogndnhighaaGreatShelf
import Derived.WalkKit
import Derived.WalkLawsBesides
import Derived.WalkSpells
import Derived.Test.YtieeogndnhighaaGreatZL14aam
import Derived.Test.YtieeogndnhighaaGreatZL14aap
import Derived.Test.YtieeogndnhighaaGreatZL14aav
set_option linter.unusedSimpArgs false
set_option linter.unusedVariables false
set_option linter.unusedSectionVars false
namespace Go.Proofs.YtieeogndnhighaaGreat
open Go.RowKit
/-- A map as a value. -/
def MapIs (L : List Int) (V : Value) (w' : World) : Prop := ∃ a cap, V = .agg #[.slice a L.length cap] ∧ L.length ≤ cap ∧ cap ≤ 9223372036854775807 ∧ Rd w' a (Ints L)
theorem MapIs.step {L : List Int} {V : Value} {w w' : World} (h : MapIs L V w) (hb : Below w.heap.size w w') : MapIs L V w' := by
  obtain ⟨a, cap, e, h1, h2, h3⟩ := h
  exact ⟨a, cap, e, h1, h2, h3.step hb⟩
end Go.Proofs.YtieeogndnhighaaGreat
