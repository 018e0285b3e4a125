/- A part of the proof of L14s. No condition. -/
import Derived.Handy
import Derived.Lib.MinMax
import Derived.Test.YtieeogndnhighaaGreatRows
import Derived.Test.YtieeogndnhighaaGreatShelf
import Derived.WalkLawsBesides
import Derived.WalkSpells
import Derived.Test.YtieeogndnhighaaGreatZL14sap
set_option linter.all false
set_option maxRecDepth 100000
set_option maxHeartbeats 200000
namespace Go.Proofs.YtieeogndnhighaaGreat
open Go.RowKit
def zbU(xs:List Int):List Value:=xs.map (Value.int .i64)
theorem yM(xs:List Int):(zbU xs).length=xs.length:=by simp[zbU]
theorem Ints_one(xs:List Int):∀u∈zbU xs,u.oneCell'=true:=by
 intro u hu;simp only[zbU,List.mem_map]at hu;obtain⟨x,_,rfl⟩:=hu;rfl
theorem elems_ints:Elems Tryz.prog 39 3 1 8 [.int .i64 0]:=⟨Tryz.underlying39,by kernel_rfl,rfl,by decide⟩
