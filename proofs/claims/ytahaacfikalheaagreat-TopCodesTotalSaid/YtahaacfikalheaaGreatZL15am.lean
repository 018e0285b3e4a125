/- A part of the proof of L15. No condition. -/
import Derived.Test.YtahaacfikalheaaGreatRows
import Derived.Test.YtahaacfikalheaaGreatZL15ae
import Derived.Test.YtahaacfikalheaaGreatZL15ag
set_option linter.all false
set_option maxRecDepth 100000
set_option maxHeartbeats 200000
namespace Go.Proofs.YtahaacfikalheaaGreat
open Go.RowKit
theorem zdR:Elems Tryz.prog 24 5 1 1 [.int .u8 0]:=⟨Tryz.underlying24,by kernel_rfl,rfl,by decide⟩
theorem Bts_one(xs:List Int):∀u∈Bts xs,u.oneCell'=true:=by
 intro u hu;obtain⟨x,_,rfl⟩:=List.mem_map.1 hu;rfl
