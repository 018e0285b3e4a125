/- A part of the proof that ends in L14a (W13b). No condition. -/
import Derived.Below
import Derived.BigQuiet
import Derived.Deep.Draws
import Derived.Deep.Light
import Derived.Deep.MidRow
import Derived.Deep.QuietTactic
import Derived.Handy
import Derived.Laws.AppendOwnNone
import Derived.Laws.CopyOwn
import Derived.Laws.MakeOwn
import Derived.Lib.Hide
import Derived.Lib.MinMax
import Derived.Maps.AppendAt
import Derived.Orders
import Derived.OrdersHeld
import Derived.Tactics
import Derived.Test.YtieeogndnhighaaGreatRows
import Derived.Test.YtieeogndnhighaaGreatShelf
import Derived.WalkKit
import Derived.WalkLawsBesides
import Derived.WalkSpells
import Derived.Test.YtieeogndnhighaaGreatZL14aam
import Derived.Test.YtieeogndnhighaaGreatZL14aaq
set_option linter.unusedSimpArgs false
set_option linter.unusedVariables false
set_option linter.unusedSectionVars false
namespace Go.Proofs.YtieeogndnhighaaGreat
open Go.RowKit
/-- A set of weights, as a slice. -/
structure Row13 where
  a : Option Addr
  cap : Nat
  l : List Int
def Row13.head (r : Row13) : Value := .slice r.a r.l.length r.cap
def Row13.ok (w : World) (r : Row13) : Prop := r.l.length ≤ r.cap ∧ r.cap ≤ 9223372036854775807 ∧ Rd w r.a (Ints r.l)
theorem Row13.ok.step {w w' : World} {r : Row13} (h : r.ok w) (hb : Below w.heap.size w w') : r.ok w' := ⟨h.1, h.2.1, h.2.2.step hb⟩
/-- A mixer of n inputs with the sets L. -/
def MixIs (n : Int) (L : List (List Int)) (V : Value) (w : World) : Prop :=
  ∃ (R : List Row13) (a : Option Addr) (cap : Nat), L = R.map Row13.l ∧ V = .agg #[.int .i64 n, .slice a R.length cap] ∧ R.length ≤ cap ∧ cap ≤ 9223372036854775807 ∧ Rd w a (R.map Row13.head) ∧ ∀ r ∈ R, r.ok w
theorem MixIs.step {n : Int} {L : List (List Int)} {V : Value} {w w' : World} (h : MixIs n L V w) (hb : Below w.heap.size w w') : MixIs n L V w' := by
  obtain ⟨R, a, cap, h1, h2, h3, h4, h5, h6⟩ := h
  exact ⟨R, a, cap, h1, h2, h3, h4, h5.step hb, fun r hr => (h6 r hr).step hb⟩
end Go.Proofs.YtieeogndnhighaaGreat
