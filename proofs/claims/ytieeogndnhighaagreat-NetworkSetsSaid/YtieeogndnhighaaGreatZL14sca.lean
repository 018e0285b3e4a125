/- A part of the proof of L14s. No condition. -/
import Derived.Test.YtieeogndnhighaaGreatZL14sbw
import Derived.Test.YtieeogndnhighaaGreatZL14sbx
set_option linter.all false
set_option maxRecDepth 100000
set_option maxHeartbeats 200000
namespace Go.Proofs.YtieeogndnhighaaGreat
open Go.RowKit
theorem small_nis14{N:S14.N}{L:NLay}{w:World}(hN:NRaw N L w)(hs:S14.small N):NIs N L w∧N.comps.length≤40∧∀p∈N.parts,p.ctrs.length≤9223372036854775807:=by
 refine⟨hN.nis (fun p hp=> ?_),(S14.fewC_iff.1 hs.1).1,fun p hp=> ?_⟩
 all_goals
  have h:=hs.2.2.2 p hp;unfold S14.big at h;simp only[not_or]at h;omega
