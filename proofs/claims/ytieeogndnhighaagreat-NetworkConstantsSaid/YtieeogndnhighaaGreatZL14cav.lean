/- A part of the proof that ends in L14c (W12c). No condition. -/
import Derived.Below
import Derived.Deep.Draws
import Derived.Deep.Light
import Derived.Deep.MidRow
import Derived.Handy
import Derived.Laws.AppendOwnNone
import Derived.Laws.CopyOwn
import Derived.Laws.MakeOwn
import Derived.Laws.OwnMore
import Derived.Lib.Hide
import Derived.Lib.MinMax
import Derived.LoadGo2
import Derived.LoopIn
import Derived.LoopNIn
import Derived.Maps.AppendAt
import Derived.Orders
import Derived.OrdersHeld
import Derived.OwnWalkIn
import Derived.RangeFuncBound
import Derived.RangeFuncCalls
import Derived.RangeFuncLeaves
import Derived.RangeFuncNested
import Derived.RangeFuncWrites
import Derived.Shelf.Abstract
import Derived.Shelf.RegionOpen
import Derived.Sort.BigQuietIn
import Derived.Sort.QuietIn
import Derived.StillTail
import Derived.Tactics
import Derived.TacticsInMore
import Derived.Test.YtieeogndnhighaaGreatRows
import Derived.WalkKit
import Derived.WalkLawsBesides
import Derived.WalkSpells
import Derived.Test.YtieeogndnhighaaGreatZL14cag
import Derived.Test.YtieeogndnhighaaGreatZL14caj
import Derived.Test.YtieeogndnhighaaGreatZL14caq
set_option linter.unusedSimpArgs false
set_option linter.unusedVariables false
set_option linter.unusedSectionVars false
namespace Go.Proofs.YtieeogndnhighaaGreat
open Go.RowKit Go.Shelf
attribute [local go_sem] Oper.semAt_some
end Go.Proofs.YtieeogndnhighaaGreat
namespace Go.Proofs.YtieeogndnhighaaGreat
open Go.RowKit Go.Shelf
attribute [local go_sem] Oper.semAt_some
abbrev Under (m : Nat) := { k : Nat // k < m }
end Go.Proofs.YtieeogndnhighaaGreat
namespace Go.Proofs.YtieeogndnhighaaGreat
open Go.RowKit Go.Shelf
attribute [local go_sem] Oper.semAt_some
def PreOK (xs : List Int) (p : Nat) (pre : List (Under p)) : Prop := ∀ k ∈ pre, S12.eqAt xs p k.1 = true
theorem PreOK.snoc {xs : List Int} {p : Nat} {pre : List (Under p)} {x : Under p} (h : PreOK xs p pre) (hx : S12.eqAt xs p x.1 = true) : PreOK xs p (pre ++ [x]) := fun k hk => by
  rcases List.mem_append.1 hk with h' | h'
  · exact h k h'
  · rw [List.mem_singleton.1 h']; exact hx
def StopAt (b : Nat) (xs : List Int) (p : Nat) (pre : List (Under p)) (X : World) : Prop :=
  ∃ (pr : List (Under p)) (x : Under p), pre = pr ++ [x] ∧ X.cell? ⟨b, 0, none⟩ = some (.int .i64 (pr.length : Int)) ∧ pr.length ≤ 255 ∧ PreOK xs p pr ∧ (S12.eqAt xs p x.1 = false ∨ pr.length = 255)
theorem StopAt.own {b : Nat} {xs : List Int} {p : Nat} {pre : List (Under p)} {A B : World} {row : Option Nat} (h : StopAt b xs p pre A) (hg : A.grownBy B row) (hr : ∀ r, row = some r → ∃ o : Obj, A.heap[r]? = some o ∧ o.isCells = false) : StopAt b xs p pre B := by
  obtain ⟨pr, x, h2, h3, h4⟩ := h
  exact ⟨pr, x, h2, cell_kept h3 hg hr, h4⟩
end Go.Proofs.YtieeogndnhighaaGreat
