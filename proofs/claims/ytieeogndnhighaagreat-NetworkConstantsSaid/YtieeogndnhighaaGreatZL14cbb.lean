/- A part of the proof that ends in L14c (O14). No condition. -/
import Derived.Below
import Derived.Deep.Light
import Derived.Deep.MidRow
import Derived.Deep.Slices
import Derived.Handy
import Derived.Laws.AppendOwn
import Derived.Laws.AppendOwnNone
import Derived.Laws.CopyOwn
import Derived.Laws.IdiomArrays
import Derived.Laws.MakeOwn
import Derived.Laws.OwnMore
import Derived.Laws.Tables
import Derived.Lib.Hide
import Derived.Lib.MinMax
import Derived.Lib.SmallJoins
import Derived.LoadGo2
import Derived.LoopIn
import Derived.LoopNIn
import Derived.Maps.AppendAt
import Derived.OpenShut
import Derived.Orders
import Derived.OrdersHeld
import Derived.OwnWalkIn
import Derived.ProofKit
import Derived.RangeFuncBound
import Derived.RangeFuncCalls
import Derived.RangeFuncLeaves
import Derived.RangeFuncNested
import Derived.RangeFuncWrites
import Derived.Shelf.Abstract
import Derived.Shelf.RegionOpen
import Derived.StillTail
import Derived.Tactics
import Derived.TacticsInMore
import Derived.Test.YtieeogndnhighaaGreatRows
import Derived.WalkKit
import Derived.WalkLawsBesides
import Derived.WalkSpells
import Derived.Test.YtieeogndnhighaaGreatZL14cau
set_option linter.unusedSimpArgs false
set_option linter.unusedVariables false
set_option linter.unusedSectionVars false
namespace Go.Proofs.YtieeogndnhighaaGreat
open Go.ChangeShapes Go.WideShapes Go.ChangeAt Go.RowKit
theorem lawOwn : ownKnob Tryz.prog.godebug = none := by kernel_rfl
theorem lawLaid : laidOutB Tryz.prog = true := by kernel_rfl
instance : Inhabited S14.C := ⟨⟨0, 0, 0, 0, 0, 0⟩⟩
end Go.Proofs.YtieeogndnhighaaGreat
