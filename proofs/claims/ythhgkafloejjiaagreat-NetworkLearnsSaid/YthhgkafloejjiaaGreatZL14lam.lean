/- A part of the proof of L14l. No condition. -/
import Derived.Test.YthhgkafloejjiaaGreatRows
import Derived.Test.YthhgkafloejjiaaGreatZL14lae
import Derived.Test.YthhgkafloejjiaaGreatZL14lah
set_option linter.all false
set_option maxRecDepth 100000
set_option maxHeartbeats 200000
namespace Go.Proofs.YthhgkafloejjiaaGreat
open Go.RowKit
theorem zeL:Elems Tryz.prog 38 5 1 1 [.int .u8 0]:=⟨Tryz.underlying38,by kernel_rfl,rfl,by decide⟩
theorem zvC(xs:List Int):∀u∈Bts xs,u.oneCell'=true:=by
 intro u a;obtain⟨x,_,rfl⟩:=List.mem_map.1 a;rfl
