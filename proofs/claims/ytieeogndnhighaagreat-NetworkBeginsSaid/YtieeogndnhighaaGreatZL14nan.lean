/- A part of the proof of L14n. No condition. -/
import Derived.Test.YtieeogndnhighaaGreatRows
import Derived.Test.YtieeogndnhighaaGreatZL14nae
import Derived.Test.YtieeogndnhighaaGreatZL14naf
set_option linter.all false
set_option maxRecDepth 100000
set_option maxHeartbeats 200000
namespace Go.Proofs.YtieeogndnhighaaGreat
open Go.RowKit
theorem zfM:Elems Tryz.prog 59 5 1 1 [.int .u8 0]:=⟨Tryz.underlying59,by kernel_rfl,rfl,by decide⟩
theorem Bts_one(xs:List Int):∀u∈Bts xs,u.oneCell'=true:=by
 intro u hu;obtain⟨x,_,rfl⟩:=List.mem_map.1 hu;rfl
