/- A part of the proof that ends in L14r (Com1). No condition. -/
import Derived.Below
import Derived.Deep.Draws
import Derived.Deep.MidRow
import Derived.Laws.AppendOwnNone
import Derived.Lib.Hide
import Derived.Orders
import Derived.OrdersHeld
import Derived.Tactics
import Derived.Test.YtieeogndnhighaaGreatRows
import Derived.WalkKit
import Derived.Test.YtieeogndnhighaaGreatZL14rae
import Derived.Test.YtieeogndnhighaaGreatZL14rag
set_option linter.unusedSectionVars false
set_option linter.unusedSimpArgs false
set_option linter.unusedVariables false
set_option maxRecDepth 100000
set_option maxHeartbeats 200000
namespace Go.Proofs.YtieeogndnhighaaGreat
open Go.RowKit
theorem zgI:Elems Tryz.prog 59 5 1 1 [.int .u8 0]:=⟨Tryz.underlying59,by kernel_rfl,rfl,by decide⟩
theorem Bts_one(xs:List Int):∀u∈Bts xs,u.oneCell'=true:=by
 intro u hu;obtain⟨x,_,rfl⟩:=List.mem_map.1 hu;rfl
end Go.Proofs.YtieeogndnhighaaGreat
