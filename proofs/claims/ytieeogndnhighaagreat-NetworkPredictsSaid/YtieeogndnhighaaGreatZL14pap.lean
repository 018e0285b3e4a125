/- A part of the proof that ends in L14p (Rep). No condition. -/
import Derived.Below
import Derived.Deep.MidRow
import Derived.Handy
import Derived.Laws.AppendOwnNone
import Derived.Laws.CopyOwn
import Derived.Laws.MakeOwn
import Derived.Lib.Hide
import Derived.Lib.MinMax
import Derived.Maps.AppendAt
import Derived.Orders
import Derived.OrdersHeld
import Derived.Tactics
import Derived.Test.YtieeogndnhighaaGreatRows
import Derived.Test.YtieeogndnhighaaGreatShelf
import Derived.WalkKit
import Derived.WalkLawsBesides
import Derived.WalkSpells
import Derived.Test.YtieeogndnhighaaGreatZL14pao
set_option linter.unusedSectionVars false
set_option linter.unusedSimpArgs false
set_option linter.unusedVariables false
set_option maxRecDepth 100000
set_option maxHeartbeats 200000
namespace Go.Proofs.YtieeogndnhighaaGreat
open Go.RowKit
def zaK(xs:List Int):List Value:=xs.map (Value.int .i64)
theorem yB(xs:List Int):(zaK xs).length=xs.length:=by simp[zaK]
theorem Ints_one(xs:List Int):∀u∈zaK xs,u.oneCell'=true:=by
 intro u hu;simp only[zaK,List.mem_map]at hu;obtain⟨x,_,rfl⟩:=hu;rfl
theorem elems_ints:Elems Tryz.prog 39 3 1 8 [.int .i64 0]:=⟨Tryz.underlying39,by kernel_rfl,rfl,by decide⟩
end Go.Proofs.YtieeogndnhighaaGreat
